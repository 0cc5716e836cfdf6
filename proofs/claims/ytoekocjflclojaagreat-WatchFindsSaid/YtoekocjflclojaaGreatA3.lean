/- The program computes the plain functions. -/
import Derived.Test.YtoekocjflclojaaGreatT1
import Derived.Test.YtoekocjflclojaaGreatA1
import Derived.Test.YtoekocjflclojaaGreatA2
set_option linter.unusedVariables false
set_option linter.unusedSimpArgs false
set_option maxRecDepth 100000
set_option maxHeartbeats 1600000
namespace Go.Proofs.YtoekocjflclojaaGreat
open Go.RowKit
theorem w_ref01_put.F (rec : api_Value → Option ((List UInt8))) (hrec : ∀ (v : api_Value) (r : (List UInt8)), rec v = some r → Fn Tryz.prog 85 0 [.agg (api_Value.dv v)] [] (fun d b => d = .sl 1 (encL e8 r) ∧ b = [])) (v : api_Value) (r : (List UInt8)) (hg : g_ref01_put.F rec v = some r) : Fn Tryz.prog 85 0 [.agg (api_Value.dv v)] [] (fun d b => d = .sl 1 (encL e8 r) ∧ b = []) := by
 unfold g_ref01_put.F at hg
 refine Fn.of Tryz.func85 rfl rfl rfl fun w0 I ρ0 => ?_
 show awp _ ⟨w0, I, ρ0, 0, 0, 34⟩ _ _ _
 refine sr_ 0 16 mk_U ?_
 refine go_ ?_
 refine ch_n fun hU => ?_
 refine sr_ 16 56 hU ?_
 refine c0_ rfl rfl (r_buildFull sl103 z5 (by decide) rfl rfl rfl rfl ck5 (cs := []) .nil rfl (l := ([] : List UInt8)) (f := e8) rfl) rfl rfl ?_
 refine go_ ?_
 obtain ⟨l, hl, hg⟩ := bind_some hg
 refine ch_s (rd := [16]) rfl rfl (r_append sl103 e8_len .row rfl .sl rfl hl rfl) rfl rfl ?_
 refine go_ ?_
 refine ch_n fun hU => ?_
 refine awp_seq ?_
 refine sr_ 56 64 hU ?_
 refine go_ ?_
 refine ch_n fun hU => ?_
 refine awp_block ?_
 refine lp_ (fun ((i_1, b_1) : Int × List UInt8) => mk [(1, .ptr 0 0), (3, .row 1), (4, .val (.int .i64 i_1))] [(0, .box (api_Value.dv v) 122), (1, .row 5 1 (encL e8 b_1))] 2) hg (sub_ [(0, 0), (1, 40)]) ?_
 rintro ⟨i_1, b_1⟩ m1 o1 hg hn1
 replace hg : g_ref01_put.l1 rec v i_1 b_1 = some o1 := hg
 show awp _ _ _ _ (mk _ _ _)
 unfold g_ref01_put.l1 at hg
 refine awp_seq ?_
 refine sr_ 2 42 mk_U ?_
 refine go_ ?_
 refine ch_n fun hU => ?_
 refine cg_ rfl hg (fun h5 hg => ?_) fun h5 hg => ?_
 ·refine awp_skip ?_
  repeat first | refine st_ ?_ | refine sn_ ?_
  refine awp_seq ?_
  refine awp_block ?_
  refine awp_region (sys _ _ []) 42 114 hU rfl rfl ?_
  refine go_ ?_
  obtain ⟨e, he, hg⟩ := bind_some hg
  refine go_ ?_
  refine c0_ rfl rfl (r_loadEA ty122 (enc_cells api_Value.enc_len (getI_at he) (o := 0) (m := 4) (cs := [.int .i64 e.Tag, .sl 1 (encL e8 e.Bytes), .bool e.Nested, .sl 4 (encL api_Value.enc e.Elements)]) (by simp only [api_Value.enc_eq]; rfl) (by decide) rfl) (enc_cells_le api_Value.enc_len (getI_at he) (o := 0) (m := 4) (by decide) rfl)) rfl rfl ?_
  obtain ⟨y, hy, hg⟩ := bind_some hg
  refine ca_ (hrec _ _ hy) ?_
  obtain ⟨l_2, hl_2, hg⟩ := bind_some hg
  refine ch_s (rd := [1]) rfl rfl (r_append sl103 e8_len .row rfl .sl rfl hl_2 rfl) rfl rfl ?_
  refine go_ ?_
  refine ch_n fun hU => ?_
  refine awp_region (sys _ _ []) 114 138 hU rfl rfl ?_
  refine go_ ?_
  refine ch_n fun hU => ?_
  obtain rfl := Option.some.inj hg
  exact ⟨((W (i_1 + 1), l_2), m1), Nat.lt_succ_self _, hn1, sub_ [(0, 0), (1, 98)]⟩
 ·refine awp_exit ?_
  repeat first | refine st_ ?_ | refine sn_ ?_
  replace hg := leave hg hn1
  refine awp_seq ?_
  refine awp_draw (sys _ _ []) (by kernel_rfl) [0, 1, 3, 7, 0, 16, 48, 127, 0, 511, 1023] 42 130 hU rfl rfl (by kernel_rfl) ?_
  refine go_ ?_
  refine c0_ rfl rfl (r_conv_u8 und3 und5) rfl rfl ?_
  refine c0_ rfl rfl (r_buildFull sl103 z5 (by decide) rfl rfl rfl rfl ck5 (cs := [.int .u8 ((u8 v.Tag).toNat : Int)]) (.cons .int .nil) rfl (l := ([(u8 v.Tag)] : List UInt8)) (f := e8) rfl) rfl rfl ?_
  refine go_ ?_
  obtain ⟨y_2, hy_2, hg⟩ := bind_some hg
  refine ca_ (w_ref01_length _ _ hy_2) ?_
  obtain ⟨l_3, hl_3, hg⟩ := bind_some hg
  refine ch_s (rd := [66]) rfl rfl (r_append sl103 e8_len .row rfl .sl rfl hl_3 rfl) rfl rfl ?_
  refine go_ ?_
  obtain ⟨l_4, hl_4, hg⟩ := bind_some hg
  refine ch_s (rd := [98, 1]) rfl rfl (r_append sl103 e8_len .row rfl .row rfl hl_4 rfl) rfl rfl ?_
  refine go_ ?_
  refine ch_n fun hU => ?_
  refine aw_r ?_
  obtain rfl := Option.some.inj hg
  exact fin_ [] ⟨rfl, rfl⟩
theorem w_ref01_put (v : api_Value) (r : (List UInt8)) (hg : g_ref01_put v = some r) : Fn Tryz.prog 85 0 [.agg (api_Value.dv v)] [] (fun d b => d = .sl 1 (encL e8 r) ∧ b = []) :=
 fixT_ind (motive := fun (x : api_Value) (r : (List UInt8)) => Fn Tryz.prog 85 0 [.agg (api_Value.dv x)] [] (fun d b => d = .sl 1 (encL e8 r) ∧ b = [])) (fun rec hrec x r h => w_ref01_put.F _ (fun v r h => hrec v r h) x r h) v r hg
theorem w_ref01_Encode (v : api_Value) (r : (List UInt8) × Int) (hg : g_ref01_Encode v = some r) : Fn Tryz.prog 71 0 [.agg (api_Value.dv v)] [] (fun d b => d = .tup [.sl 1 (encL e8 r.1), .val (.int .i64 r.2)] ∧ b = []) := by
 unfold g_ref01_Encode at hg
 refine Fn.of Tryz.func71 rfl rfl rfl fun w0 I ρ0 => ?_
 show awp _ ⟨w0, I, ρ0, 0, 0, 17⟩ _ _ _
 refine sr_ 0 24 mk_U ?_
 refine go_ ?_
 refine ch_n fun hU => ?_
 refine awp_seq ?_
 refine sr_ 24 48 hU ?_
 refine go_ ?_
 obtain ⟨y, hy, hg⟩ := bind_some hg
 refine ca_ (w_ref01_formed _ _ hy) ?_
 refine go_ ?_
 refine ch_n fun hU => ?_
 refine cg_ rfl hg (fun h3 hg => ?_) fun h3 hg => ?_
 ·refine awp_seq ?_
  refine awp_region (sys _ _ []) 48 64 hU rfl rfl ?_
  refine go_ ?_
  refine ch_n fun hU => ?_
  refine aw_r ?_
  obtain rfl := Option.some.inj hg
  exact fin_ [] ⟨rfl, rfl⟩
 ·refine awp_skip ?_
  repeat first | refine st_ ?_ | refine sn_ ?_
  refine awp_seq ?_
  refine sr_ 48 72 hU ?_
  refine go_ ?_
  obtain ⟨y_2, hy_2, hg⟩ := bind_some hg
  refine ca_ (w_ref01_depth _ _ hy_2) ?_
  refine go_ ?_
  refine ch_n fun hU => ?_
  refine cg_ rfl hg (fun h6 hg => ?_) fun h6 hg => ?_
  ·refine awp_seq ?_
   refine awp_region (sys _ _ []) 72 88 hU rfl rfl ?_
   refine go_ ?_
   refine ch_n fun hU => ?_
   refine aw_r ?_
   obtain rfl := Option.some.inj hg
   exact fin_ [] ⟨rfl, rfl⟩
  ·refine awp_skip ?_
   repeat first | refine st_ ?_ | refine sn_ ?_
   refine sr_ 72 96 hU ?_
   refine go_ ?_
   obtain ⟨y_3, hy_3, hg⟩ := bind_some hg
   refine ca_ (w_ref01_put _ _ hy_3) ?_
   refine go_ ?_
   refine ch_n fun hU => ?_
   refine awp_seq ?_
   refine sr_ 96 120 hU ?_
   refine go_ ?_
   refine ch_n fun hU => ?_
   refine cg_ rfl hg (fun h10 hg => ?_) fun h10 hg => ?_
   ·refine awp_seq ?_
    refine awp_region (sys _ _ []) 120 136 hU rfl rfl ?_
    refine go_ ?_
    refine ch_n fun hU => ?_
    refine aw_r ?_
    obtain rfl := Option.some.inj hg
    exact fin_ [] ⟨rfl, rfl⟩
   ·refine awp_skip ?_
    repeat first | refine st_ ?_ | refine sn_ ?_
    refine sr_ 120 144 hU ?_
    refine go_ ?_
    refine ch_n fun hU => ?_
    refine aw_r ?_
    obtain rfl := Option.some.inj hg
    exact fin_ [] ⟨rfl, rfl⟩
theorem w_ref03_Bytes (c : api_Certificate) (r : (List UInt8) × Int) (hg : g_ref03_Bytes c = some r) : Fn Tryz.prog 47 0 [.agg (api_Certificate.dv c)] [] (fun d b => d = .tup [.sl 1 (encL e8 r.1), .val (.int .i64 r.2)] ∧ b = []) := by
 unfold g_ref03_Bytes at hg
 refine Fn.of Tryz.func47 rfl rfl rfl fun w0 I ρ0 => ?_
 show awp _ ⟨w0, I, ρ0, 0, 0, 12⟩ _ _ _
 refine sr_ 0 24 mk_U ?_
 refine go_ ?_
 refine ch_n fun hU => ?_
 refine awp_seq ?_
 refine sr_ 24 48 hU ?_
 refine go_ ?_
 obtain ⟨y, hy, hg⟩ := bind_some hg
 refine ca_ (w_ref03_Check _ _ hy) ?_
 refine go_ ?_
 refine ch_n fun hU => ?_
 refine cg_ rfl hg (fun h3 hg => ?_) fun h3 hg => ?_
 ·refine awp_seq ?_
  refine awp_region (sys _ _ []) 48 64 hU rfl rfl ?_
  refine go_ ?_
  refine ch_n fun hU => ?_
  refine aw_r ?_
  obtain rfl := Option.some.inj hg
  exact fin_ [] ⟨rfl, rfl⟩
 ·refine awp_skip ?_
  repeat first | refine st_ ?_ | refine sn_ ?_
  refine sr_ 48 104 hU ?_
  refine go_ ?_
  obtain ⟨y_2, hy_2, hg⟩ := bind_some hg
  refine ca_ (w_ref03_body _ _ hy_2) ?_
  obtain ⟨y_3, hy_3, hg⟩ := bind_some hg
  refine ca_ (w_ref01_Encode _ _ hy_3) ?_
  refine go_ ?_
  refine ch_n fun hU => ?_
  refine aw_r ?_
  obtain rfl := Option.some.inj hg
  exact fin_ [] ⟨rfl, rfl⟩
theorem w_ref03_Sum (b : (List UInt8)) (r : Int) (hg : g_ref03_Sum b = some r) : Fn Tryz.prog 48 0 [.sl 1 (encL e8 b)] [] (fun d b => d = .val (.int .i64 r) ∧ b = []) := by
 unfold g_ref03_Sum at hg
 refine Fn.of Tryz.func48 rfl rfl rfl fun w0 I ρ0 => ?_
 show awp _ ⟨w0, I, ρ0, 0, 0, 21⟩ _ _ _
 refine sr_ 0 8 mk_U ?_
 refine go_ ?_
 refine ch_n fun hU => ?_
 refine sr_ 8 16 hU ?_
 refine go_ ?_
 refine ch_n fun hU => ?_
 refine awp_seq ?_
 refine sr_ 16 24 hU ?_
 refine go_ ?_
 refine ch_n fun hU => ?_
 refine awp_block ?_
 refine lp_ (fun ((h_1, i_1) : Int × Int) => mk [(0, .sl 1 (encL e8 b)), (3, .val (.int .u32 h_1)), (4, .val (.int .i64 i_1))] [] 0) hg (sub_ []) ?_
 rintro ⟨h_1, i_1⟩ m1 o1 hg hn1
 replace hg : g_ref03_Sum.l1 b h_1 i_1 = some o1 := hg
 show awp _ _ _ _ (mk _ _ _)
 unfold g_ref03_Sum.l1 at hg
 refine awp_seq ?_
 refine sr_ 0 32 mk_U ?_
 refine go_ ?_
 refine ch_n fun hU => ?_
 refine cg_ rfl hg (fun h5 hg => ?_) fun h5 hg => ?_
 ·refine awp_skip ?_
  repeat first | refine st_ ?_ | refine sn_ ?_
  refine awp_seq ?_
  refine awp_block ?_
  refine awp_region (sys _ _ []) 32 104 hU rfl rfl ?_
  refine go_ ?_
  obtain ⟨e, he, hg⟩ := bind_some hg
  refine go_ ?_
  refine c0_ rfl rfl (r_loadE1 ty5 (enc_cell e8_len (getI_at he) (o := 0) (c := .int .u8 (e.toNat : Int)) rfl rfl)) rfl rfl ?_
  refine c0_ rfl rfl (r_convK und5 und124) rfl rfl ?_
  refine c0_ rfl rfl r_xorK rfl rfl ?_
  refine c0_ rfl rfl r_mulK rfl rfl ?_
  refine go_ ?_
  refine ch_n fun hU => ?_
  refine awp_region (sys _ _ []) 104 128 hU rfl rfl ?_
  refine go_ ?_
  refine ch_n fun hU => ?_
  obtain rfl := Option.some.inj hg
  exact ⟨((IntKind.wrap .u32 ((xorK .u32 h_1 (IntKind.wrap .u32 (e.toNat : Int))) * 16777619), W (i_1 + 1)), m1), Nat.lt_succ_self _, hn1, sub_ []⟩
 ·refine awp_exit ?_
  repeat first | refine st_ ?_ | refine sn_ ?_
  replace hg := leave hg hn1
  refine sr_ 32 56 hU ?_
  refine go_ ?_
  refine c0_ rfl rfl (r_conv_i64 und124 und3) rfl rfl ?_
  refine go_ ?_
  refine ch_n fun hU => ?_
  refine aw_r ?_
  obtain rfl := Option.some.inj hg
  exact fin_ [] ⟨rfl, rfl⟩
theorem w_ref03_Sign (c : api_Certificate) (key : Int) (r : api_Certificate × Int) (hg : g_ref03_Sign c key = some r) : Fn Tryz.prog 30 0 [.agg (api_Certificate.dv c), .val (.int .i64 key)] [] (fun d b => d = .tup [.agg (api_Certificate.dv r.1), .val (.int .i64 r.2)] ∧ b = []) := by
 unfold g_ref03_Sign at hg
 refine Fn.of Tryz.func30 rfl rfl rfl fun w0 I ρ0 => ?_
 show awp _ ⟨w0, I, ρ0, 0, 0, 35⟩ _ _ _
 refine sr_ 0 24 mk_U ?_
 refine go_ ?_
 refine ch_n fun hU => ?_
 refine sr_ 24 48 hU ?_
 refine go_ ?_
 obtain ⟨y, hy, hg⟩ := bind_some hg
 refine ca_ (w_ref03_Copy _ _ hy) ?_
 refine go_ ?_
 refine ch_n fun hU => ?_
 refine sr_ 48 72 hU ?_
 refine c0_ rfl rfl (.build (r := [.val (.int .i64 0), .val (.int .i64 0)]) und79 pl79 z79 (by kernel_rfl) rfl) rfl rfl ?_
 refine go_ ?_
 refine ch_n fun hU => ?_
 refine awp_seq ?_
 refine awp_cut (ι := Bool) (fun (x22_1 : Bool) => mk [(1, .val (.int .i64 key)), (2, .ptr 0 0), (4, .ptr 1 0), (22, .val (.bool x22_1))] [(0, .box [.val (.int .i64 y.Serial), .val (.string y.Issuer), .val (.string y.Subject), .val (.int .i64 y.Key.Alg), .val (.int .i64 y.Key.Bits), .val (.int .i64 y.KeyId), .val (.int .i64 y.Hash.Alg), .val (.int .i64 y.Hash.Bits), .val (.int .i64 y.From), .val (.int .i64 y.To), .val (.bool y.Authority), .val (.int .i64 y.Path), .sl 1 (encL eS y.Names), .val (.int .i64 0), .val (.int .i64 0)] 81), (1, .box [.val (.int .i64 0), .val (.string (⟨#[]⟩ : ByteArray)), .val (.string (⟨#[]⟩ : ByteArray)), .val (.int .i64 0), .val (.int .i64 0), .val (.int .i64 0), .val (.int .i64 0), .val (.int .i64 0), .val (.int .i64 0), .val (.int .i64 0), .val (.bool false), .val (.int .i64 0), .val (.slice none 0 0), .val (.int .i64 0), .val (.int .i64 0)] 81)] 2) (fun (x22_1 : Bool) => g_ref03_Sign.j1 key y x22_1 = some r) ?_ ?_
 ·refine awp_region (sys _ _ []) 72 160 hU rfl rfl ?_
  refine go_ ?_
  obtain ⟨y_2, hy_2, hg⟩ := bind_some hg
  refine ca_ (w_ref03_Check _ _ hy_2) ?_
  refine go_ ?_
  rcases bc_ hg with ⟨h4, hg⟩ | ⟨h4, hg⟩
  ·refine go_ ?_
   refine ch_n fun hU => ?_
   exact ⟨true, hg, sub_ [(0, 0), (1, 8)]⟩
  ·refine go_ ?_
   rcases bc_ hg with ⟨h6, hg⟩ | ⟨h6, hg⟩
   ·refine go_ ?_
    refine ch_n fun hU => ?_
    exact ⟨true, hg, sub_ [(0, 0), (1, 8)]⟩
   ·refine go_ ?_
    refine ch_n fun hU => ?_
    exact ⟨decide (2147483648 < key), hg, sub_ [(0, 0), (1, 8)]⟩
 ·rintro x22_1 hg
  replace hg : g_ref03_Sign.j1 key y x22_1 = some r := hg
  show awp _ _ _ _ (mk _ _ _)
  unfold g_ref03_Sign.j1 at hg
  refine cg_ rfl hg (fun h9 hg => ?_) fun h9 hg => ?_
  ·refine awp_seq ?_
   refine awp_region (sys _ _ []) 2 26 mk_U rfl rfl ?_
   refine c0_ rfl rfl (.build (r := [.val (.int .i64 0), .val (.string (⟨#[]⟩ : ByteArray)), .val (.string (⟨#[]⟩ : ByteArray)), .val (.int .i64 0), .val (.int .i64 0), .val (.int .i64 0), .val (.int .i64 0), .val (.int .i64 0), .val (.int .i64 0), .val (.int .i64 0), .val (.bool false), .val (.int .i64 0), .val (.slice none 0 0), .val (.int .i64 0), .val (.int .i64 0)]) und81 pl81 z81 (by kernel_rfl) rfl) rfl rfl ?_
   refine go_ ?_
   refine ch_n fun hU => ?_
   refine aw_r ?_
   obtain rfl := Option.some.inj hg
   exact fin_ [] ⟨rfl, rfl⟩
  ·refine awp_skip ?_
   repeat first | refine st_ ?_ | refine sn_ ?_
   refine sr_ 2 58 mk_U ?_
   refine go_ ?_
   obtain ⟨y_3, hy_3, hg⟩ := bind_some hg
   refine ca_ (w_ref03_Bytes _ _ hy_3) ?_
   refine go_ ?_
   refine ch_n fun hU => ?_
   refine sr_ 58 106 hU ?_
   refine go_ ?_
   obtain ⟨y_4, hy_4, hg⟩ := bind_some hg
   refine ca_ (w_ref03_Sum _ _ hy_4) ?_
   refine c0_ rfl rfl (.build (r := [.val (.int .i64 key), .val (.int .i64 y_4)]) und79 pl79 z79 (by kernel_rfl) rfl) rfl rfl ?_
   refine go_ ?_
   refine ch_n fun hU => ?_
   refine sr_ 106 130 hU ?_
   refine go_ ?_
   refine ch_n fun hU => ?_
   refine aw_r ?_
   obtain rfl := Option.some.inj hg
   exact fin_ [] ⟨rfl, rfl⟩
theorem w_move_Leaf (name : ByteArray) (key : api_Use) (id : Int) (anchor : Int) (to : Int) (r : api_Identity) (hg : g_move_Leaf name key id anchor to = some r) : Fn Tryz.prog 16 0 [.val (.string name), .agg [.val (.int .i64 key.Alg), .val (.int .i64 key.Bits)], .val (.int .i64 id), .val (.int .i64 anchor), .val (.int .i64 to)] [] (fun d b => d = .agg (api_Identity.dv r) ∧ b = []) := by
 unfold g_move_Leaf at hg
 refine Fn.of Tryz.func16 rfl rfl rfl fun w0 I ρ0 => ?_
 show awp _ ⟨w0, I, ρ0, 0, 0, 32⟩ _ _ _
 refine sr_ 0 16 mk_U ?_
 refine go_ ?_
 refine ch_n fun hU => ?_
 refine sr_ 16 104 hU ?_
 refine go_ ?_
 refine c0_ rfl rfl (.build (r := [.val (.int .i64 3), .val (.int .i64 0)]) und42 pl42 z42 (by kernel_rfl) rfl) rfl rfl ?_
 refine go_ ?_
 refine c0_ rfl rfl (r_buildFull sl51 z9 (by decide) rfl rfl rfl rfl ck9 (cs := [.str name]) (.cons .str .nil) rfl (l := ([name] : List ByteArray)) (f := eS) rfl) rfl rfl ?_
 refine c0_ rfl rfl (.build (r := [.val (.int .i64 id), .val (.string (⟨#[114, 111, 111, 116]⟩ : ByteArray)), .val (.string name), .val (.int .i64 key.Alg), .val (.int .i64 key.Bits), .val (.int .i64 id), .val (.int .i64 3), .val (.int .i64 0), .val (.int .i64 0), .val (.int .i64 to), .val (.bool false), .val (.int .i64 0), .row 72, .val (.int .i64 0), .val (.int .i64 0)]) und81 pl81 z81 (by kernel_rfl) rfl) rfl rfl ?_
 refine go_ ?_
 refine ch_n fun hU => ?_
 refine awp_seq ?_
 refine awp_sub (σ' := mk [(2, .val (.int .i64 id)), (3, .val (.int .i64 anchor)), (6, .ptr 0 0), (10, .ptr 1 0), (11, .ptr 2 0)] [(0, .box [.val (.int .i64 key.Alg), .val (.int .i64 key.Bits)] 42), (1, .box [.val (.int .i64 0), .val (.int .i64 0), .val (.int .i64 0), .val (.slice none 0 0)] 58), (2, .box [.val (.int .i64 id), .val (.string (⟨#[114, 111, 111, 116]⟩ : ByteArray)), .val (.string name), .val (.int .i64 key.Alg), .val (.int .i64 key.Bits), .val (.int .i64 id), .val (.int .i64 3), .val (.int .i64 0), .val (.int .i64 0), .val (.int .i64 to), .val (.bool false), .val (.int .i64 0), .sl 1 (encL eS ([name] : List ByteArray)), .val (.int .i64 0), .val (.int .i64 0)] 81)] 3) (sub_ [(0, 0), (1, 8), (2, 88)]) ?_
 refine awp_region (sys _ _ []) 3 59 mk_U rfl rfl ?_
 refine go_ ?_
 obtain ⟨y, hy, hg⟩ := bind_some hg
 refine ca_ (w_ref03_Sign _ _ _ hy) ?_
 refine go_ ?_
 refine ch_n fun hU => ?_
 refine sr_ 59 107 hU ?_
 refine go_ ?_
 refine c0_ rfl rfl (r_buildFull sl56 z81 (by decide) rfl rfl rfl rfl ck81 (cs := [.int .i64 y.1.Serial, .str y.1.Issuer, .str y.1.Subject, .int .i64 y.1.Key.Alg, .int .i64 y.1.Key.Bits, .int .i64 y.1.KeyId, .int .i64 y.1.Hash.Alg, .int .i64 y.1.Hash.Bits, .int .i64 y.1.From, .int .i64 y.1.To, .bool y.1.Authority, .int .i64 y.1.Path, .sl 1 (encL eS y.1.Names), .int .i64 y.1.Seal.Key, .int .i64 y.1.Seal.Sum]) (.cons .int (.cons .str (.cons .str (.cons .int (.cons .int (.cons .int (.cons .int (.cons .int (.cons .int (.cons .int (.cons .bool (.cons .int (.cons .sl (.cons .int (.cons .int .nil))))))))))))))) rfl (l := ([y.1] : List api_Certificate)) (f := api_Certificate.enc) rfl) rfl rfl ?_
 refine c0_ rfl rfl (.build (r := [.val (.int .i64 key.Alg), .val (.int .i64 key.Bits), .val (.int .i64 id), .row 83]) und58 pl58 z58 (by kernel_rfl) rfl) rfl rfl ?_
 refine go_ ?_
 refine ch_n fun hU => ?_
 refine aw_r ?_
 obtain rfl := Option.some.inj hg
 exact fin_ [] ⟨rfl, rfl⟩
theorem w_make_Dice_Word (d : cipherplanmake_Dice) (l : (List ByteArray)) (r : ByteArray × cipherplanmake_Dice) (hg : g_make_Dice_Word d l = some r) : Fn Tryz.prog 19 1 [.ptr 0 0, .sl 1 (encL eS l)] [.box [.sl 1 (encL eI d.L), .val (.int .i64 d.At)] 50] (fun d b => d = .val (.string r.1) ∧ b = [.box [.sl 1 (encL eI r.2.L), .val (.int .i64 r.2.At)] 50]) := by
 unfold g_make_Dice_Word at hg
 refine Fn.of Tryz.func19 rfl rfl rfl fun w0 I ρ0 => ?_
 show awp _ ⟨w0, I, ρ0, 1, 1, 12⟩ _ _ _
 refine sr_ 1 9 mk_U ?_
 refine go_ ?_
 refine ch_n fun hU => ?_
 refine sr_ 9 73 hU ?_
 refine go_ ?_
 obtain ⟨y, hy, hg⟩ := bind_some hg
 refine cb_ [0] [0] [] false (w_make_Dice_Next _ _ _ hy) ?_
 obtain ⟨e, he, hg⟩ := bind_some hg
 refine go_ ?_
 refine c0_ rfl rfl (r_loadE1 ty9 (enc_cell eS_len (getI_at he) (o := 0) (c := .str e) rfl rfl)) rfl rfl ?_
 refine go_ ?_
 refine ch_n fun hU => ?_
 refine aw_r ?_
 obtain rfl := Option.some.inj hg
 exact fin_ [(0, 0)] ⟨rfl, rfl⟩
theorem w_make_Item (d : cipherplanmake_Dice) (name : ByteArray) (r : api_Item × cipherplanmake_Dice) (hg : g_make_Item d name = some r) : Fn Tryz.prog 18 1 [.ptr 0 0, .val (.string name)] [.box [.sl 1 (encL eI d.L), .val (.int .i64 d.At)] 50] (fun d b => d = .agg (api_Item.dv r.1) ∧ b = [.box [.sl 1 (encL eI r.2.L), .val (.int .i64 r.2.At)] 50]) := by
 unfold g_make_Item at hg
 refine Fn.of Tryz.func18 rfl rfl rfl fun w0 I ρ0 => ?_
 show awp _ ⟨w0, I, ρ0, 1, 1, 62⟩ _ _ _
 refine sr_ 1 9 mk_U ?_
 refine go_ ?_
 refine ch_n fun hU => ?_
 refine sr_ 9 89 hU ?_
 refine go_ ?_
 obtain ⟨y, hy, hg⟩ := bind_some hg
 refine cb_ [0] [0] [] false (w_make_Dice_Next _ _ _ hy) ?_
 refine go_ ?_
 obtain ⟨y_2, hy_2, hg⟩ := bind_some hg
 refine cb_ [0] [0] [] false (w_make_Dice_Next _ _ _ hy_2) ?_
 refine go_ ?_
 refine c0_ rfl rfl (.build (r := [.val (.string name), .val (.int .i64 (W (1 + y.1))), .val (.int .i64 (W (1 + y_2.1))), .val (.slice none 0 0), .val (.int .i64 0)]) und65 pl65 z65 (by kernel_rfl) rfl) rfl rfl ?_
 refine go_ ?_
 refine ch_n fun hU => ?_
 refine sr_ 89 113 hU ?_
 refine go_ ?_
 obtain ⟨y_3, hy_3, hg⟩ := bind_some hg
 refine cb_ [0] [0] [] false (w_make_Dice_Next _ _ _ hy_3) ?_
 refine go_ ?_
 refine ch_n fun hU => ?_
 refine awp_seq ?_
 refine sr_ 113 145 hU ?_
 refine go_ ?_
 obtain ⟨y_4, hy_4, hg⟩ := bind_some hg
 refine cb_ [0] [0] [] false (w_make_Dice_Next _ _ _ hy_4) ?_
 refine go_ ?_
 refine ch_n fun hU => ?_
 refine awp_block ?_
 refine lp_ (fun ((day_1, i_1, d_1, l_1) : Int × Int × cipherplanmake_Dice × List api_Link) => mk [(0, .ptr 0 0), (4, .ptr 1 0), (5, .ptr 2 0), (6, .val (.int .i64 day_1)), (7, .val (.int .i64 i_1))] [(0, .box [.sl 1 (encL eI d_1.L), .val (.int .i64 d_1.At)] 50), (1, .box [.val (.string (⟨#[]⟩ : ByteArray)), .val (.int .i64 0), .val (.int .i64 0), .val (.slice none 0 0), .val (.int .i64 0)] 65), (2, .box [.val (.string name), .val (.int .i64 (W (1 + y.1))), .val (.int .i64 (W (1 + y_2.1))), .row 3, .val (.int .i64 0)] 65), (3, .row 86 3 (encL api_Link.enc l_1))] 4) hg (sub_ [(0, 0), (1, 1), (2, 73)]) ?_
 rintro ⟨day_1, i_1, d_1, l_1⟩ m1 o1 hg hn1
 replace hg : g_make_Item.l1 name y y_2 day_1 i_1 d_1 l_1 = some o1 := hg
 show awp _ _ _ _ (mk _ _ _)
 unfold g_make_Item.l1 at hg
 refine awp_seq ?_
 refine sr_ 4 20 mk_U ?_
 refine go_ ?_
 refine ch_n fun hU => ?_
 refine cg_ rfl hg (fun h6 hg => ?_) fun h6 hg => ?_
 ·refine awp_skip ?_
  repeat first | refine st_ ?_ | refine sn_ ?_
  refine awp_seq ?_
  refine awp_block ?_
  refine sr_ 20 124 hU ?_
  refine c0_ rfl rfl (.build (r := [.val (.int .i64 2), .val (.int .i64 0)]) und42 pl42 z42 (by kernel_rfl) rfl) rfl rfl ?_
  refine c0_ rfl rfl (.build (r := [.val (.int .i64 1), .val (.int .i64 0)]) und42 pl42 z42 (by kernel_rfl) rfl) rfl rfl ?_
  refine c0_ rfl rfl (.build (r := [.val (.int .i64 5), .val (.int .i64 2048)]) und42 pl42 z42 (by kernel_rfl) rfl) rfl rfl ?_
  refine c0_ rfl rfl (.build (r := [.val (.int .i64 16), .val (.int .i64 128)]) und42 pl42 z42 (by kernel_rfl) rfl) rfl rfl ?_
  refine c0_ rfl rfl (.build (r := [.val (.int .i64 3), .val (.int .i64 0)]) und42 pl42 z42 (by kernel_rfl) rfl) rfl rfl ?_
  refine c0_ rfl rfl (.build (r := [.val (.int .i64 15), .val (.int .i64 168)]) und42 pl42 z42 (by kernel_rfl) rfl) rfl rfl ?_
  refine c0_ rfl rfl (r_buildFull sl84 z42 (by decide) rfl rfl rfl rfl ck42 (cs := [.int .i64 2, .int .i64 0, .int .i64 1, .int .i64 0, .int .i64 5, .int .i64 2048, .int .i64 16, .int .i64 128, .int .i64 3, .int .i64 0, .int .i64 15, .int .i64 168]) (.cons .int (.cons .int (.cons .int (.cons .int (.cons .int (.cons .int (.cons .int (.cons .int (.cons .int (.cons .int (.cons .int (.cons .int .nil)))))))))))) rfl (l := ([(api_Use.mk 2 0), (api_Use.mk 1 0), (api_Use.mk 5 2048), (api_Use.mk 16 128), (api_Use.mk 3 0), (api_Use.mk 15 168)] : List api_Use)) (f := api_Use.enc) rfl) rfl rfl ?_
  refine go_ ?_
  obtain ⟨y_5, hy_5, hg⟩ := bind_some hg
  refine cb_ [0] [0] [] false (w_make_Dice_Next _ _ _ hy_5) ?_
  obtain ⟨e, he, hg⟩ := bind_some hg
  refine go_ ?_
  refine ch_s (rd := [68]) rfl rfl (r_loadRA ty42 (enc_cells api_Use.enc_len (getI_at he) (o := 0) (m := 2) (cs := [.int .i64 e.Alg, .int .i64 e.Bits]) rfl (by decide) rfl) (enc_cells_le api_Use.enc_len (getI_at he) (o := 0) (m := 2) (by decide) rfl)) rfl rfl ?_
  refine go_ ?_
  refine ch_n fun hU => ?_
  refine sr_ 124 196 hU ?_
  refine go_ ?_
  refine c0_ rfl rfl (.build (r := [.val (.int .i64 e.Alg), .val (.int .i64 e.Bits), .val (.int .i64 day_1)]) und86 pl86 z86 (by kernel_rfl) rfl) rfl rfl ?_
  refine c0_ rfl rfl (r_buildFull sl63 z86 (by decide) rfl rfl rfl rfl ck86 (cs := [.int .i64 e.Alg, .int .i64 e.Bits, .int .i64 day_1]) (.cons .int (.cons .int (.cons .int .nil))) rfl (l := ([(api_Link.mk e day_1)] : List api_Link)) (f := api_Link.enc) rfl) rfl rfl ?_
  obtain ⟨l, hl, hg⟩ := bind_some hg
  refine ch_s (rd := [3, 164]) rfl rfl (r_append sl63 api_Link.enc_len .row rfl .row rfl hl rfl) rfl rfl ?_
  refine go_ ?_
  refine ch_n fun hU => ?_
  refine awp_region (sys _ _ [220]) 196 252 hU rfl rfl ?_
  refine go_ ?_
  refine ch_z (rd := []) rfl rfl (r_buildFull sl22 z3 (by decide) rfl rfl rfl rfl ck3 (cs := [.int .i64 5, .int .i64 30, .int .i64 0, .int .i64 100]) (.cons .int (.cons .int (.cons .int (.cons .int .nil)))) rfl (l := ([5, 30, 0, 100] : List Int)) (f := eI) rfl) rfl rfl rfl ?_
  obtain ⟨y_6, hy_6, hg⟩ := bind_some hg
  refine cb_ [0] [0] [] false (w_make_Dice_Of _ _ _ hy_6) ?_
  refine go_ ?_
  refine ch_n fun hU => ?_
  refine awp_region (sys _ _ []) 252 276 hU rfl rfl ?_
  refine go_ ?_
  refine ch_n fun hU => ?_
  obtain rfl := Option.some.inj hg
  exact ⟨((W ((W (day_1 + 1)) + y_6.1), W (i_1 - 1), y_6.2, l), m1), Nat.lt_succ_self _, hn1, sub_ [(0, 0), (1, 1), (2, 2), (3, 172)]⟩
 ·refine awp_exit ?_
  repeat first | refine st_ ?_ | refine sn_ ?_
  replace hg := leave hg hn1
  refine awp_seq ?_
  refine awp_draw (sys _ _ [68]) (by kernel_rfl) [0, 1, 3, 7, 15, 0, 0, 96, 255, 511, 1023] 20 108 hU rfl rfl (by kernel_rfl) ?_
  refine go_ ?_
  obtain ⟨e_2, he_2, hg⟩ := bind_some hg
  refine go_ ?_
  refine ch_s (rd := [3]) rfl rfl (.loadR1 ty3 (enc_cell api_Link.enc_len (getI_at he_2) (o := 2) (c := .int .i64 e_2.Day) rfl rfl)) rfl rfl ?_
  refine go_ ?_
  refine ch_z (rd := []) rfl rfl (r_buildFull sl22 z3 (by decide) rfl rfl rfl rfl ck3 (cs := [.int .i64 50, .int .i64 300, .int .i64 0, .int .i64 3000]) (.cons .int (.cons .int (.cons .int (.cons .int .nil)))) rfl (l := ([50, 300, 0, 3000] : List Int)) (f := eI) rfl) rfl rfl rfl ?_
  obtain ⟨y_7, hy_7, hg⟩ := bind_some hg
  refine cb_ [0] [0] [] false (w_make_Dice_Of _ _ _ hy_7) ?_
  refine go_ ?_
  refine ch_n fun hU => ?_
  refine sr_ 108 124 hU ?_
  refine go_ ?_
  refine ch_n fun hU => ?_
  refine aw_r ?_
  obtain rfl := Option.some.inj hg
  exact fin_ [(0, 0)] ⟨rfl, rfl⟩
theorem w_move_Sound (d : cipherplanmake_Dice) (r : api_Estate × cipherplanmake_Dice) (hg : g_move_Sound d = some r) : Fn Tryz.prog 7 1 [.ptr 0 0] [.box [.sl 1 (encL eI d.L), .val (.int .i64 d.At)] 50] (fun d b => d = .agg (api_Estate.dv r.1) ∧ b = [.box [.sl 1 (encL eI r.2.L), .val (.int .i64 r.2.At)] 50]) := by
 unfold g_move_Sound at hg
 refine Fn.of Tryz.func7 rfl rfl rfl fun w0 I ρ0 => ?_
 show awp _ ⟨w0, I, ρ0, 1, 1, 122⟩ _ _ _
 refine sr_ 1 9 mk_U ?_
 refine go_ ?_
 refine ch_n fun hU => ?_
 refine sr_ 9 17 hU ?_
 refine go_ ?_
 refine ch_n fun hU => ?_
 refine sr_ 17 65 hU ?_
 refine c0_ rfl rfl (r_buildFull sl51 z9 (by decide) rfl rfl rfl rfl ck9 (cs := [.str (⟨#[97, 112, 112]⟩ : ByteArray), .str (⟨#[100, 98]⟩ : ByteArray), .str (⟨#[119, 101, 98]⟩ : ByteArray)]) (.cons .str (.cons .str (.cons .str .nil))) rfl (l := ([(⟨#[97, 112, 112]⟩ : ByteArray), (⟨#[100, 98]⟩ : ByteArray), (⟨#[119, 101, 98]⟩ : ByteArray)] : List ByteArray)) (f := eS) rfl) rfl rfl ?_
 refine go_ ?_
 obtain ⟨y, hy, hg⟩ := bind_some hg
 refine cb_ [0] [0] [] false (w_make_Dice_Next _ _ _ hy) ?_
 refine go_ ?_
 obtain ⟨l, hl, hg⟩ := bind_some hg
 refine ch_s (rd := [17]) rfl rfl (r_sliR_hi sl51 eS_len hl) rfl rfl ?_
 refine go_ ?_
 refine ch_n fun hU => ?_
 refine awp_seq ?_
 refine sr_ 65 89 hU ?_
 refine go_ ?_
 refine c0_ rfl rfl (.len sl51.elem .part) rfl rfl ?_
 refine go_ ?_
 refine ch_n fun hU => ?_
 refine awp_block ?_
 refine lp_ (fun ((x18_1, d_1, l_1) : Int × cipherplanmake_Dice × List api_Endpoint) => mk [(0, .ptr 0 0), (2, .ptr 1 0), (3, .ptr 2 0), (4, .part 3 (((0 : Int).toNat) * 1) ((W (2 + y.1) : Int).toNat - (0 : Int).toNat)), (16, .part 3 (((0 : Int).toNat) * 1) ((W (2 + y.1) : Int).toNat - (0 : Int).toNat)), (17, .val (.int .i64 ((((W (2 + y.1) : Int).toNat - (0 : Int).toNat) : Nat) : Int))), (18, .val (.int .i64 x18_1))] [(0, .box [.sl 1 (encL eI d_1.L), .val (.int .i64 d_1.At)] 50), (1, .box [.val (.slice none 0 0), .val (.slice none 0 0), .val (.slice none 0 0)] 31), (2, .box [.row 4, .val (.slice none 0 0), .val (.slice none 0 0)] 31), (3, .row 9 1 (encL eS ([(⟨#[97, 112, 112]⟩ : ByteArray), (⟨#[100, 98]⟩ : ByteArray), (⟨#[119, 101, 98]⟩ : ByteArray)] : List ByteArray))), (4, .row 37 9 (encL api_Endpoint.enc l_1))] 5) hg (sub_ [(0, 0), (1, 1), (2, 9), (3, 17)]) ?_
 rintro ⟨x18_1, d_1, l_1⟩ m1 o1 hg hn1
 replace hg : g_move_Sound.l1 y x18_1 d_1 l_1 = some o1 := hg
 show awp _ _ _ _ (mk _ _ _)
 unfold g_move_Sound.l1 at hg
 refine sr_ 5 13 mk_U ?_
 refine go_ ?_
 refine ch_n fun hU => ?_
 refine awp_seq ?_
 refine cg_ rfl hg (fun h6 hg => ?_) fun h6 hg => ?_
 ·refine awp_skip ?_
  repeat first | refine st_ ?_ | refine sn_ ?_
  refine awp_seq ?_
  refine awp_block ?_
  refine sr_ 13 53 hU ?_
  refine go_ ?_
  obtain ⟨e, he, hg⟩ := bind_some hg
  refine ch_s (rd := [3]) rfl rfl (r_idxP sl51 (getI_ix he) (getI_at he)) rfl rfl ?_
  refine ch_s (rd := [3]) rfl rfl (.loadR1 ty9 (enc_cell eS_len (part_at (a := (0 : Int).toNat) (getI_at he)) (o := 0) (c := .str e) rfl rfl)) rfl rfl ?_
  refine go_ ?_
  refine ch_n fun hU => ?_
  refine awp_seq ?_
  refine awp_draw (sys _ _ [69, 85, 93, 101]) (by kernel_rfl) [0, 0, 0, 6, 0, 0, 0, 112, 0, 270, 1022, 2046, 0, 4878, 0, 0, 0, 78606, 262143, 0, 1048575] 53 221 hU rfl rfl (by kernel_rfl) ?_
  refine go_ ?_
  refine ch_z (rd := []) rfl rfl (r_buildFull sl22 z3 (by decide) rfl rfl rfl rfl ck3 (cs := [.int .i64 3, .int .i64 3, .int .i64 4]) (.cons .int (.cons .int (.cons .int .nil))) rfl (l := ([3, 3, 4] : List Int)) (f := eI) rfl) rfl rfl rfl ?_
  obtain ⟨y_2, hy_2, hg⟩ := bind_some hg
  refine cb_ [0] [0] [] false (w_make_Dice_Of _ _ _ hy_2) ?_
  refine ch_z (rd := []) rfl rfl (r_buildFull sl22 z3 (by decide) rfl rfl rfl rfl ck3 (cs := [.int .i64 10, .int .i64 8, .int .i64 2]) (.cons .int (.cons .int (.cons .int .nil))) rfl (l := ([10, 8, 2] : List Int)) (f := eI) rfl) rfl rfl rfl ?_
  refine ch_z (rd := []) rfl rfl (r_buildFull sl22 z3 (by decide) rfl rfl rfl rfl ck3 (cs := [.int .i64 8, .int .i64 2]) (.cons .int (.cons .int .nil)) rfl (l := ([8, 2] : List Int)) (f := eI) rfl) rfl rfl rfl ?_
  refine ch_z (rd := []) rfl rfl (r_buildFull sl22 z3 (by decide) rfl rfl rfl rfl ck3 (cs := [.int .i64 2, .int .i64 10, .int .i64 8, .int .i64 3]) (.cons .int (.cons .int (.cons .int (.cons .int .nil)))) rfl (l := ([2, 10, 8, 3] : List Int)) (f := eI) rfl) rfl rfl rfl ?_
  refine c0_ rfl rfl (r_buildFull sl54 z22 (by decide) rfl rfl rfl rfl ck22 (cs := [.sl 1 (encL eI ([10, 8, 2] : List Int)), .sl 1 (encL eI ([8, 2] : List Int)), .sl 1 (encL eI ([2, 10, 8, 3] : List Int))]) (.cons .sl (.cons .sl (.cons .sl .nil))) rfl (l := ([([10, 8, 2] : List Int), ([8, 2] : List Int), ([2, 10, 8, 3] : List Int)] : List (List Int))) (f := (eL 1 eI)) rfl) rfl rfl ?_
  refine go_ ?_
  obtain ⟨y_3, hy_3, hg⟩ := bind_some hg
  refine cb_ [0] [0] [] false (w_make_Dice_Next _ _ _ hy_3) ?_
  obtain ⟨e_2, he_2, hg⟩ := bind_some hg
  refine go_ ?_
  refine ch_s (rd := [109]) rfl rfl (.loadR1 ty22 (enc_cell (eL_len _ _) (getI_at he_2) (o := 0) (c := .sl 1 (encL eI e_2)) rfl rfl)) rfl rfl ?_
  refine go_ ?_
  obtain ⟨y_4, hy_4, hg⟩ := bind_some hg
  refine cb_ [0] [0] [] false (w_make_Dice_One _ _ _ hy_4) ?_
  refine c0_ rfl rfl (r_buildFull sl22 z3 (by decide) rfl rfl rfl rfl ck3 (cs := [.int .i64 1]) (.cons .int .nil) rfl (l := ([1] : List Int)) (f := eI) rfl) rfl rfl ?_
  refine c0_ rfl rfl (r_buildFull sl22 z3 (by decide) rfl rfl rfl rfl ck3 (cs := [.int .i64 2, .int .i64 3]) (.cons .int (.cons .int .nil)) rfl (l := ([2, 3] : List Int)) (f := eI) rfl) rfl rfl ?_
  refine go_ ?_
  obtain ⟨y_5, hy_5, hg⟩ := bind_some hg
  refine cb_ [0] [0] [] false (w_make_Dice_One _ _ _ hy_5) ?_
  refine c0_ rfl rfl (.build (r := [.val (.string e), .val (.int .i64 1), .val (.int .i64 y_2.1), .sl 1 (encL eI e_2), .val (.bool y_4.1), .val (.slice none 0 0), .row 165, .row 173, .val (.bool y_5.1)]) und37 pl37 z37 (by kernel_rfl) rfl) rfl rfl ?_
  refine go_ ?_
  refine ch_n fun hU => ?_
  refine awp_cut (ι := List Int) (fun (x_2 : List Int) => mk [(0, .ptr 0 0), (2, .ptr 1 0), (3, .ptr 2 0), (4, .part 3 (((0 : Int).toNat) * 1) ((W (2 + y.1) : Int).toNat - (0 : Int).toNat)), (5, .val (.int .i64 x18_1)), (6, .val (.string e)), (7, .ptr 4 0), (16, .part 3 (((0 : Int).toNat) * 1) ((W (2 + y.1) : Int).toNat - (0 : Int).toNat)), (17, .val (.int .i64 ((((W (2 + y.1) : Int).toNat - (0 : Int).toNat) : Nat) : Int))), (18, .val (.int .i64 x18_1))] [(0, .box [.sl 1 (encL eI y_5.2.L), .val (.int .i64 y_5.2.At)] 50), (1, .box [.val (.slice none 0 0), .val (.slice none 0 0), .val (.slice none 0 0)] 31), (2, .box [.row 5, .val (.slice none 0 0), .val (.slice none 0 0)] 31), (3, .row 9 1 (encL eS ([(⟨#[97, 112, 112]⟩ : ByteArray), (⟨#[100, 98]⟩ : ByteArray), (⟨#[119, 101, 98]⟩ : ByteArray)] : List ByteArray))), (4, .box [.val (.string e), .val (.int .i64 1), .val (.int .i64 y_2.1), .sl 1 (encL eI x_2), .val (.bool y_4.1), .val (.slice none 0 0), .row 6, .row 7, .val (.bool y_5.1)] 37), (5, .row 37 9 (encL api_Endpoint.enc l_1)), (6, .row 3 1 (encL eI ([1] : List Int))), (7, .row 3 1 (encL eI ([2, 3] : List Int)))] 8) (fun (x_2 : List Int) => g_move_Sound.j2 x18_1 l_1 e y_2 y_4 y_5 x_2 = some o1) ?_ ?_
  ·refine awp_seq ?_
   refine awp_region (sys _ _ []) 221 245 hU rfl rfl ?_
   refine go_ ?_
   refine ch_n fun hU => ?_
   refine cg_ rfl hg (fun h10 hg => ?_) fun h10 hg => ?_
   ·refine awp_region (sys _ _ []) 245 293 hU rfl rfl ?_
    refine c0_ rfl rfl (r_buildFull sl22 z3 (by decide) rfl rfl rfl rfl ck3 (cs := [.int .i64 14]) (.cons .int .nil) rfl (l := ([14] : List Int)) (f := eI) rfl) rfl rfl ?_
    refine go_ ?_
    obtain ⟨l_2, hl_2, hg⟩ := bind_some hg
    refine ch_s (rd := [245]) rfl rfl (r_append sl22 eI_len .row rfl .sl rfl hl_2 rfl) rfl rfl ?_
    refine go_ ?_
    refine ch_n fun hU => ?_
    exact ⟨l_2, hg, sub_ [(0, 0), (1, 1), (2, 2), (3, 3), (4, 205), (5, 4), (6, 165), (7, 173)]⟩
   ·refine awp_skip ?_
    repeat first | refine st_ ?_ | refine sn_ ?_
    exact ⟨e_2, hg, sub_ [(0, 0), (1, 1), (2, 2), (3, 3), (4, 205), (5, 4), (6, 165), (7, 173)]⟩
  ·rintro x_2 hg
   replace hg : g_move_Sound.j2 x18_1 l_1 e y_2 y_4 y_5 x_2 = some o1 := hg
   show awp _ _ _ _ (mk _ _ _)
   unfold g_move_Sound.j2 at hg
   refine sr_ 8 72 mk_U ?_
   refine go_ ?_
   obtain ⟨y_6, hy_6, hg⟩ := bind_some hg
   refine ca_ (w_move_RSA _ hy_6) ?_
   refine go_ ?_
   obtain ⟨y_7, hy_7, hg⟩ := bind_some hg
   refine ca_ (w_move_Leaf _ _ _ _ _ _ hy_7) ?_
   refine c0_ rfl rfl (r_buildFull sl35 z58 (by decide) rfl rfl rfl rfl ck58 (cs := [.int .i64 y_7.Key.Alg, .int .i64 y_7.Key.Bits, .int .i64 y_7.KeyId, .sl 15 (encL api_Certificate.enc y_7.Chain)]) (.cons .int (.cons .int (.cons .int (.cons .sl .nil)))) rfl (l := ([y_7] : List api_Identity)) (f := api_Identity.enc) rfl) rfl rfl ?_
   refine go_ ?_
   refine ch_n fun hU => ?_
   refine awp_sub (σ' := mk [(0, .ptr 0 0), (2, .ptr 1 0), (3, .ptr 2 0), (4, .part 3 (((0 : Int).toNat) * 1) ((W (2 + y.1) : Int).toNat - (0 : Int).toNat)), (7, .ptr 4 0), (16, .part 3 (((0 : Int).toNat) * 1) ((W (2 + y.1) : Int).toNat - (0 : Int).toNat)), (17, .val (.int .i64 ((((W (2 + y.1) : Int).toNat - (0 : Int).toNat) : Nat) : Int))), (18, .val (.int .i64 x18_1))] [(0, .box [.sl 1 (encL eI y_5.2.L), .val (.int .i64 y_5.2.At)] 50), (1, .box [.val (.slice none 0 0), .val (.slice none 0 0), .val (.slice none 0 0)] 31), (2, .box [.row 5, .val (.slice none 0 0), .val (.slice none 0 0)] 31), (3, .row 9 1 (encL eS ([(⟨#[97, 112, 112]⟩ : ByteArray), (⟨#[100, 98]⟩ : ByteArray), (⟨#[119, 101, 98]⟩ : ByteArray)] : List ByteArray))), (4, .box [.val (.string e), .val (.int .i64 1), .val (.int .i64 y_2.1), .sl 1 (encL eI x_2), .val (.bool y_4.1), .sl 4 (encL api_Identity.enc ([y_7] : List api_Identity)), .row 6, .row 7, .val (.bool y_5.1)] 37), (5, .row 37 9 (encL api_Endpoint.enc l_1)), (6, .row 3 1 (encL eI ([1] : List Int))), (7, .row 3 1 (encL eI ([2, 3] : List Int)))] 8) (sub_ [(0, 0), (1, 1), (2, 2), (3, 3), (4, 4), (5, 5), (6, 6), (7, 7)]) ?_
   refine awp_sub (σ' := mk [(0, .ptr 0 0), (2, .ptr 1 0), (3, .ptr 2 0), (4, .part 3 (((0 : Int).toNat) * 1) ((W (2 + y.1) : Int).toNat - (0 : Int).toNat)), (7, .ptr 4 0), (16, .part 3 (((0 : Int).toNat) * 1) ((W (2 + y.1) : Int).toNat - (0 : Int).toNat)), (17, .val (.int .i64 ((((W (2 + y.1) : Int).toNat - (0 : Int).toNat) : Nat) : Int))), (18, .val (.int .i64 x18_1))] [(0, .box [.sl 1 (encL eI y_5.2.L), .val (.int .i64 y_5.2.At)] 50), (1, .box [.val (.slice none 0 0), .val (.slice none 0 0), .val (.slice none 0 0)] 31), (2, .box [.row 5, .val (.slice none 0 0), .val (.slice none 0 0)] 31), (3, .row 9 1 (encL eS ([(⟨#[97, 112, 112]⟩ : ByteArray), (⟨#[100, 98]⟩ : ByteArray), (⟨#[119, 101, 98]⟩ : ByteArray)] : List ByteArray))), (4, .box [.val (.string e), .val (.int .i64 1), .val (.int .i64 y_2.1), .sl 1 (encL eI x_2), .val (.bool y_4.1), .sl 4 (encL api_Identity.enc ([y_7] : List api_Identity)), .sl 1 (encL eI ([1] : List Int)), .row 6, .val (.bool y_5.1)] 37), (5, .row 37 9 (encL api_Endpoint.enc l_1)), (6, .row 3 1 (encL eI ([2, 3] : List Int)))] 7) (sub_ [(0, 0), (1, 1), (2, 2), (3, 3), (4, 4), (5, 5), (6, 7)]) ?_
   refine awp_sub (σ' := mk [(0, .ptr 0 0), (2, .ptr 1 0), (3, .ptr 2 0), (4, .part 3 (((0 : Int).toNat) * 1) ((W (2 + y.1) : Int).toNat - (0 : Int).toNat)), (7, .ptr 4 0), (16, .part 3 (((0 : Int).toNat) * 1) ((W (2 + y.1) : Int).toNat - (0 : Int).toNat)), (17, .val (.int .i64 ((((W (2 + y.1) : Int).toNat - (0 : Int).toNat) : Nat) : Int))), (18, .val (.int .i64 x18_1))] [(0, .box [.sl 1 (encL eI y_5.2.L), .val (.int .i64 y_5.2.At)] 50), (1, .box [.val (.slice none 0 0), .val (.slice none 0 0), .val (.slice none 0 0)] 31), (2, .box [.row 5, .val (.slice none 0 0), .val (.slice none 0 0)] 31), (3, .row 9 1 (encL eS ([(⟨#[97, 112, 112]⟩ : ByteArray), (⟨#[100, 98]⟩ : ByteArray), (⟨#[119, 101, 98]⟩ : ByteArray)] : List ByteArray))), (4, .box [.val (.string e), .val (.int .i64 1), .val (.int .i64 y_2.1), .sl 1 (encL eI x_2), .val (.bool y_4.1), .sl 4 (encL api_Identity.enc ([y_7] : List api_Identity)), .sl 1 (encL eI ([1] : List Int)), .sl 1 (encL eI ([2, 3] : List Int)), .val (.bool y_5.1)] 37), (5, .row 37 9 (encL api_Endpoint.enc l_1))] 6) (sub_ [(0, 0), (1, 1), (2, 2), (3, 3), (4, 4), (5, 5)]) ?_
   refine awp_region (sys _ _ []) 6 62 mk_U rfl rfl ?_
   refine go_ ?_
   refine c0_ rfl rfl (r_buildFull sl27 z37 (by decide) rfl rfl rfl rfl ck37 (cs := [.str e, .int .i64 1, .int .i64 y_2.1, .sl 1 (encL eI x_2), .bool y_4.1, .sl 4 (encL api_Identity.enc ([y_7] : List api_Identity)), .sl 1 (encL eI ([1] : List Int)), .sl 1 (encL eI ([2, 3] : List Int)), .bool y_5.1]) (.cons .str (.cons .int (.cons .int (.cons .sl (.cons .bool (.cons .sl (.cons .sl (.cons .sl (.cons .bool .nil))))))))) rfl (l := ([(api_Endpoint.mk e 1 y_2.1 x_2 y_4.1 ([y_7] : List api_Identity) ([1] : List Int) ([2, 3] : List Int) y_5.1)] : List api_Endpoint)) (f := api_Endpoint.enc) rfl) rfl rfl ?_
   obtain ⟨l_3, hl_3, hg⟩ := bind_some hg
   refine ch_s (rd := [5, 30]) rfl rfl (r_append sl27 api_Endpoint.enc_len .row rfl .row rfl hl_3 rfl) rfl rfl ?_
   refine go_ ?_
   refine ch_n fun hU => ?_
   refine awp_region (sys _ _ []) 62 78 hU rfl rfl ?_
   refine go_ ?_
   refine ch_n fun hU => ?_
   obtain rfl := Option.some.inj hg
   exact ⟨((W (x18_1 + 1), y_5.2, l_3), m1), Nat.lt_succ_self _, hn1, sub_ [(0, 0), (1, 1), (2, 2), (3, 3), (4, 38)]⟩
 ·refine awp_exit ?_
  repeat first | refine st_ ?_ | refine sn_ ?_
  replace hg := leave hg hn1
  refine awp_seq ?_
  refine sr_ 13 37 hU ?_
  refine go_ ?_
  refine c0_ rfl rfl (.len sl51.elem .part) rfl rfl ?_
  refine go_ ?_
  refine ch_n fun hU => ?_
  refine awp_block ?_
  refine lp_ (fun ((x66_6, d_6, l_6) : Int × cipherplanmake_Dice × List api_Edge) => mk [(0, .ptr 0 0), (2, .ptr 1 0), (3, .ptr 2 0), (4, .part 3 (((0 : Int).toNat) * 1) ((W (2 + y.1) : Int).toNat - (0 : Int).toNat)), (65, .val (.int .i64 ((((W (2 + y.1) : Int).toNat - (0 : Int).toNat) : Nat) : Int))), (66, .val (.int .i64 x66_6))] [(0, .box [.sl 1 (encL eI d_6.L), .val (.int .i64 d_6.At)] 50), (1, .box [.val (.slice none 0 0), .val (.slice none 0 0), .val (.slice none 0 0)] 31), (2, .box [.row 4, .row 5, .val (.slice none 0 0)] 31), (3, .row 9 1 (encL eS ([(⟨#[97, 112, 112]⟩ : ByteArray), (⟨#[100, 98]⟩ : ByteArray), (⟨#[119, 101, 98]⟩ : ByteArray)] : List ByteArray))), (4, .row 37 9 (encL api_Endpoint.enc l_1)), (5, .row 62 2 (encL api_Edge.enc l_6))] 6) hg (sub_ [(0, 0), (1, 1), (2, 2), (3, 3), (4, 4)]) ?_
  rintro ⟨x66_6, d_6, l_6⟩ m6 o6 hg hn6
  replace hg : g_move_Sound.l6 y l_1 x66_6 d_6 l_6 = some o6 := hg
  show awp _ _ _ _ (mk _ _ _)
  unfold g_move_Sound.l6 at hg
  refine sr_ 6 14 mk_U ?_
  refine go_ ?_
  refine ch_n fun hU => ?_
  refine awp_seq ?_
  refine cg_ rfl hg (fun h17 hg => ?_) fun h17 hg => ?_
  ·refine awp_skip ?_
   repeat first | refine st_ ?_ | refine sn_ ?_
   refine awp_seq ?_
   refine awp_block ?_
   refine sr_ 14 30 hU ?_
   refine go_ ?_
   refine ch_n fun hU => ?_
   refine sr_ 30 54 hU ?_
   refine go_ ?_
   refine c0_ rfl rfl (.len sl51.elem .part) rfl rfl ?_
   refine go_ ?_
   refine ch_n fun hU => ?_
   refine awp_block ?_
   refine lp_ (fun ((x71_7, d_7, l_7) : Int × cipherplanmake_Dice × List api_Edge) => mk [(0, .ptr 0 0), (2, .ptr 1 0), (3, .ptr 2 0), (4, .part 3 (((0 : Int).toNat) * 1) ((W (2 + y.1) : Int).toNat - (0 : Int).toNat)), (8, .val (.int .i64 x66_6)), (65, .val (.int .i64 ((((W (2 + y.1) : Int).toNat - (0 : Int).toNat) : Nat) : Int))), (66, .val (.int .i64 x66_6)), (70, .val (.int .i64 ((((W (2 + y.1) : Int).toNat - (0 : Int).toNat) : Nat) : Int))), (71, .val (.int .i64 x71_7))] [(0, .box [.sl 1 (encL eI d_7.L), .val (.int .i64 d_7.At)] 50), (1, .box [.val (.slice none 0 0), .val (.slice none 0 0), .val (.slice none 0 0)] 31), (2, .box [.row 4, .row 5, .val (.slice none 0 0)] 31), (3, .row 9 1 (encL eS ([(⟨#[97, 112, 112]⟩ : ByteArray), (⟨#[100, 98]⟩ : ByteArray), (⟨#[119, 101, 98]⟩ : ByteArray)] : List ByteArray))), (4, .row 37 9 (encL api_Endpoint.enc l_1)), (5, .row 62 2 (encL api_Edge.enc l_7))] 6) hg (sub_ [(0, 0), (1, 1), (2, 2), (3, 3), (4, 4), (5, 5)]) ?_
   rintro ⟨x71_7, d_7, l_7⟩ m7 o7 hg hn7
   replace hg : g_move_Sound.l7 y x66_6 x71_7 d_7 l_7 = some o7 := hg
   show awp _ _ _ _ (mk _ _ _)
   unfold g_move_Sound.l7 at hg
   refine sr_ 6 14 mk_U ?_
   refine go_ ?_
   refine ch_n fun hU => ?_
   refine awp_seq ?_
   refine cg_ rfl hg (fun h21 hg => ?_) fun h21 hg => ?_
   ·refine awp_skip ?_
    repeat first | refine st_ ?_ | refine sn_ ?_
    refine awp_cut (ι := cipherplanmake_Dice × List api_Edge) (fun ((d_9, l_9) : cipherplanmake_Dice × List api_Edge) => mk [(0, .ptr 0 0), (2, .ptr 1 0), (3, .ptr 2 0), (4, .part 3 (((0 : Int).toNat) * 1) ((W (2 + y.1) : Int).toNat - (0 : Int).toNat)), (8, .val (.int .i64 x66_6)), (65, .val (.int .i64 ((((W (2 + y.1) : Int).toNat - (0 : Int).toNat) : Nat) : Int))), (66, .val (.int .i64 x66_6)), (70, .val (.int .i64 ((((W (2 + y.1) : Int).toNat - (0 : Int).toNat) : Nat) : Int))), (71, .val (.int .i64 x71_7))] [(0, .box [.sl 1 (encL eI d_9.L), .val (.int .i64 d_9.At)] 50), (1, .box [.val (.slice none 0 0), .val (.slice none 0 0), .val (.slice none 0 0)] 31), (2, .box [.row 4, .row 5, .val (.slice none 0 0)] 31), (3, .row 9 1 (encL eS ([(⟨#[97, 112, 112]⟩ : ByteArray), (⟨#[100, 98]⟩ : ByteArray), (⟨#[119, 101, 98]⟩ : ByteArray)] : List ByteArray))), (4, .row 37 9 (encL api_Endpoint.enc l_1)), (5, .row 62 2 (encL api_Edge.enc l_9))] 6) (fun ((d_9, l_9) : cipherplanmake_Dice × List api_Edge) => g_move_Sound.j9 x71_7 d_9 l_9 = some o7) ?_ ?_
    ·refine awp_block ?_
     refine sr_ 14 30 hU ?_
     refine go_ ?_
     refine ch_n fun hU => ?_
     refine awp_cut (ι := Bool × cipherplanmake_Dice) (fun ((x87_8, d_8) : Bool × cipherplanmake_Dice) => mk [(0, .ptr 0 0), (2, .ptr 1 0), (3, .ptr 2 0), (4, .part 3 (((0 : Int).toNat) * 1) ((W (2 + y.1) : Int).toNat - (0 : Int).toNat)), (8, .val (.int .i64 x66_6)), (9, .val (.int .i64 x71_7)), (65, .val (.int .i64 ((((W (2 + y.1) : Int).toNat - (0 : Int).toNat) : Nat) : Int))), (66, .val (.int .i64 x66_6)), (70, .val (.int .i64 ((((W (2 + y.1) : Int).toNat - (0 : Int).toNat) : Nat) : Int))), (71, .val (.int .i64 x71_7)), (87, .val (.bool x87_8))] [(0, .box [.sl 1 (encL eI d_8.L), .val (.int .i64 d_8.At)] 50), (1, .box [.val (.slice none 0 0), .val (.slice none 0 0), .val (.slice none 0 0)] 31), (2, .box [.row 4, .row 5, .val (.slice none 0 0)] 31), (3, .row 9 1 (encL eS ([(⟨#[97, 112, 112]⟩ : ByteArray), (⟨#[100, 98]⟩ : ByteArray), (⟨#[119, 101, 98]⟩ : ByteArray)] : List ByteArray))), (4, .row 37 9 (encL api_Endpoint.enc l_1)), (5, .row 62 2 (encL api_Edge.enc l_7))] 6) (fun ((x87_8, d_8) : Bool × cipherplanmake_Dice) => g_move_Sound.j8 x66_6 x71_7 l_7 x87_8 d_8 = some o7) ?_ ?_
     ·refine awp_region (sys _ _ []) 30 142 hU rfl rfl ?_
      refine go_ ?_
      rcases bc_ hg with ⟨h23, hg⟩ | ⟨h23, hg⟩
      ·refine go_ ?_
       obtain ⟨y_8, hy_8, hg⟩ := bind_some hg
       refine cb_ [0] [0] [] false (w_make_Dice_Next _ _ _ hy_8) ?_
       refine go_ ?_
       rcases bc_ hg with ⟨h24, hg⟩ | ⟨h24, hg⟩
       ·refine go_ ?_
        refine ch_n fun hU => ?_
        exact ⟨(decide ((l_7.length : Int) < 3), y_8.2), hg, sub_ [(0, 0), (1, 1), (2, 2), (3, 3), (4, 4), (5, 5)]⟩
       ·refine go_ ?_
        refine ch_n fun hU => ?_
        exact ⟨(false, y_8.2), hg, sub_ [(0, 0), (1, 1), (2, 2), (3, 3), (4, 4), (5, 5)]⟩
      ·refine go_ ?_
       refine ch_n fun hU => ?_
       exact ⟨(false, d_7), hg, sub_ [(0, 0), (1, 1), (2, 2), (3, 3), (4, 4), (5, 5)]⟩
     ·rintro ⟨x87_8, d_8⟩ hg
      replace hg : g_move_Sound.j8 x66_6 x71_7 l_7 x87_8 d_8 = some o7 := hg
      show awp _ _ _ _ (mk _ _ _)
      unfold g_move_Sound.j8 at hg
      refine cg_ rfl hg (fun h28 hg => ?_) fun h28 hg => ?_
      ·refine awp_region (sys _ _ []) 6 78 mk_U rfl rfl ?_
       refine go_ ?_
       refine c0_ rfl rfl (.build (r := [.val (.int .i64 x66_6), .val (.int .i64 x71_7)]) und62 pl62 z62 (by kernel_rfl) rfl) rfl rfl ?_
       refine c0_ rfl rfl (r_buildFull sl28 z62 (by decide) rfl rfl rfl rfl ck62 (cs := [.int .i64 x66_6, .int .i64 x71_7]) (.cons .int (.cons .int .nil)) rfl (l := ([(api_Edge.mk x66_6 x71_7)] : List api_Edge)) (f := api_Edge.enc) rfl) rfl rfl ?_
       obtain ⟨l_4, hl_4, hg⟩ := bind_some hg
       refine ch_s (rd := [5, 46]) rfl rfl (r_append sl28 api_Edge.enc_len .row rfl .row rfl hl_4 rfl) rfl rfl ?_
       refine go_ ?_
       refine ch_n fun hU => ?_
       exact ⟨(d_8, l_4), hg, sub_ [(0, 0), (1, 1), (2, 2), (3, 3), (4, 4), (5, 54)]⟩
      ·refine awp_skip ?_
       repeat first | refine st_ ?_ | refine sn_ ?_
       exact ⟨(d_8, l_7), hg, sub_ [(0, 0), (1, 1), (2, 2), (3, 3), (4, 4), (5, 5)]⟩
    ·rintro ⟨d_9, l_9⟩ hg
     replace hg : g_move_Sound.j9 x71_7 d_9 l_9 = some o7 := hg
     show awp _ _ _ _ (mk _ _ _)
     unfold g_move_Sound.j9 at hg
     refine awp_region (sys _ _ []) 6 22 mk_U rfl rfl ?_
     refine go_ ?_
     refine ch_n fun hU => ?_
     obtain rfl := Option.some.inj hg
     exact ⟨((W (x71_7 + 1), d_9, l_9), m7), Nat.lt_succ_self _, hn7, sub_ [(0, 0), (1, 1), (2, 2), (3, 3), (4, 4), (5, 5)]⟩
   ·refine awp_exit ?_
    repeat first | refine st_ ?_ | refine sn_ ?_
    replace hg := leave hg hn7
    refine awp_region (sys _ _ []) 14 30 hU rfl rfl ?_
    refine go_ ?_
    refine ch_n fun hU => ?_
    obtain rfl := Option.some.inj hg
    exact ⟨((W (x66_6 + 1), d_7, l_7), m6), Nat.lt_succ_self _, hn6, sub_ [(0, 0), (1, 1), (2, 2), (3, 3), (4, 4), (5, 5)]⟩
  ·refine awp_exit ?_
   repeat first | refine st_ ?_ | refine sn_ ?_
   replace hg := leave hg hn6
   refine awp_cut (ι := List api_Edge) (fun (l_10 : List api_Edge) => mk [(0, .ptr 0 0), (2, .ptr 1 0), (3, .ptr 2 0)] [(0, .box [.sl 1 (encL eI d_6.L), .val (.int .i64 d_6.At)] 50), (1, .box [.val (.slice none 0 0), .val (.slice none 0 0), .val (.slice none 0 0)] 31), (2, .box [.row 3, .row 4, .val (.slice none 0 0)] 31), (3, .row 37 9 (encL api_Endpoint.enc l_1)), (4, .row 62 2 (encL api_Edge.enc l_10))] 5) (fun (l_10 : List api_Edge) => g_move_Sound.j10 l_1 d_6 l_10 = some r) ?_ ?_
   ·refine awp_seq ?_
    refine awp_region (sys _ _ []) 14 46 hU rfl rfl ?_
    refine go_ ?_
    refine ch_n fun hU => ?_
    refine cg_ rfl hg (fun h33 hg => ?_) fun h33 hg => ?_
    ·refine awp_region (sys _ _ []) 46 78 hU rfl rfl ?_
     refine c0_ rfl rfl (.build (r := [.val (.int .i64 0), .val (.int .i64 1)]) und62 pl62 z62 (by kernel_rfl) rfl) rfl rfl ?_
     refine c0_ rfl rfl (r_buildFull sl28 z62 (by decide) rfl rfl rfl rfl ck62 (cs := [.int .i64 0, .int .i64 1]) (.cons .int (.cons .int .nil)) rfl (l := ([(api_Edge.mk 0 1)] : List api_Edge)) (f := api_Edge.enc) rfl) rfl rfl ?_
     refine go_ ?_
     refine ch_n fun hU => ?_
     exact ⟨([(api_Edge.mk 0 1)] : List api_Edge), hg, sub_ [(0, 0), (1, 1), (2, 2), (3, 4), (4, 54)]⟩
    ·refine awp_skip ?_
     repeat first | refine st_ ?_ | refine sn_ ?_
     exact ⟨l_6, hg, sub_ [(0, 0), (1, 1), (2, 2), (3, 4), (4, 5)]⟩
   ·rintro l_10 hg
    replace hg : g_move_Sound.j10 l_1 d_6 l_10 = some r := hg
    show awp _ _ _ _ (mk _ _ _)
    unfold g_move_Sound.j10 at hg
    refine awp_seq ?_
    refine sr_ 5 29 mk_U ?_
    refine go_ ?_
    obtain ⟨y_9, hy_9, hg⟩ := bind_some hg
    refine cb_ [0] [0] [] false (w_make_Dice_Next _ _ _ hy_9) ?_
    refine go_ ?_
    refine ch_n fun hU => ?_
    refine awp_block ?_
    refine lp_ (fun ((i_11, d_11, l_11) : Int × cipherplanmake_Dice × List api_Item) => mk [(0, .ptr 0 0), (2, .ptr 1 0), (3, .ptr 2 0), (10, .val (.int .i64 i_11))] [(0, .box [.sl 1 (encL eI d_11.L), .val (.int .i64 d_11.At)] 50), (1, .box [.val (.slice none 0 0), .val (.slice none 0 0), .val (.slice none 0 0)] 31), (2, .box [.row 3, .row 4, .row 5] 31), (3, .row 37 9 (encL api_Endpoint.enc l_1)), (4, .row 62 2 (encL api_Edge.enc l_10)), (5, .row 65 5 (encL api_Item.enc l_11))] 6) hg (sub_ [(0, 0), (1, 1), (2, 2), (3, 3), (4, 4)]) ?_
    rintro ⟨i_11, d_11, l_11⟩ m11 o11 hg hn11
    replace hg : g_move_Sound.l11 l_1 l_10 i_11 d_11 l_11 = some o11 := hg
    show awp _ _ _ _ (mk _ _ _)
    unfold g_move_Sound.l11 at hg
    refine awp_seq ?_
    refine sr_ 6 22 mk_U ?_
    refine go_ ?_
    refine ch_n fun hU => ?_
    refine cg_ rfl hg (fun h37 hg => ?_) fun h37 hg => ?_
    ·refine awp_skip ?_
     repeat first | refine st_ ?_ | refine sn_ ?_
     refine awp_seq ?_
     refine awp_block ?_
     refine awp_draw (sys _ _ [54]) (by kernel_rfl) [0, 1, 0, 0, 0, 24, 60, 124, 255, 511, 1023] 22 110 hU rfl rfl (by kernel_rfl) ?_
     refine go_ ?_
     refine ch_z (rd := []) rfl rfl (r_buildFull sl51 z9 (by decide) rfl rfl rfl rfl ck9 (cs := [.str (⟨#[98, 97, 99, 107, 117, 112]⟩ : ByteArray), .str (⟨#[100, 101, 101, 100]⟩ : ByteArray)]) (.cons .str (.cons .str .nil)) rfl (l := ([(⟨#[98, 97, 99, 107, 117, 112]⟩ : ByteArray), (⟨#[100, 101, 101, 100]⟩ : ByteArray)] : List ByteArray)) (f := eS) rfl) rfl rfl rfl ?_
     obtain ⟨y_10, hy_10, hg⟩ := bind_some hg
     refine cb_ [0] [0] [] false (w_make_Dice_Word _ _ _ hy_10) ?_
     obtain ⟨y_11, hy_11, hg⟩ := bind_some hg
     refine cb_ [0] [0] [] false (w_make_Item _ _ _ hy_11) ?_
     refine c0_ rfl rfl (r_buildFull sl29 z65 (by decide) rfl rfl rfl rfl ck65 (cs := [.str y_11.1.Name, .int .i64 y_11.1.Kind, .int .i64 y_11.1.Purpose, .sl 3 (encL api_Link.enc y_11.1.Links), .int .i64 y_11.1.Until]) (.cons .str (.cons .int (.cons .int (.cons .sl (.cons .int .nil))))) rfl (l := ([y_11.1] : List api_Item)) (f := api_Item.enc) rfl) rfl rfl ?_
     obtain ⟨l_5, hl_5, hg⟩ := bind_some hg
     refine ch_s (rd := [5, 78]) rfl rfl (r_append sl29 api_Item.enc_len .row rfl .row rfl hl_5 rfl) rfl rfl ?_
     refine go_ ?_
     refine ch_n fun hU => ?_
     refine awp_region (sys _ _ []) 110 134 hU rfl rfl ?_
     refine go_ ?_
     refine ch_n fun hU => ?_
     obtain rfl := Option.some.inj hg
     exact ⟨((W (i_11 - 1), y_11.2, l_5), m11), Nat.lt_succ_self _, hn11, sub_ [(0, 0), (1, 1), (2, 2), (3, 3), (4, 4), (5, 86)]⟩
    ·refine awp_exit ?_
     repeat first | refine st_ ?_ | refine sn_ ?_
     replace hg := leave hg hn11
     refine sr_ 22 38 hU ?_
     refine go_ ?_
     refine ch_n fun hU => ?_
     refine aw_r ?_
     obtain rfl := Option.some.inj hg
     exact fin_ [(0, 0)] ⟨rfl, rfl⟩
theorem w_ref14_Check (f : api_Finding) (r : Int) (hg : g_ref14_Check f = some r) : Fn Tryz.prog 49 0 [.agg (api_Finding.dv f)] [] (fun d b => d = .val (.int .i64 r) ∧ b = []) := by
 unfold g_ref14_Check at hg
 refine Fn.of Tryz.func49 rfl rfl rfl fun w0 I ρ0 => ?_
 show awp _ ⟨w0, I, ρ0, 0, 0, 161⟩ _ _ _
 refine sr_ 0 16 mk_U ?_
 refine go_ ?_
 refine ch_n fun hU => ?_
 refine awp_seq ?_
 refine awp_cut (ι := Bool) (fun (x56_1 : Bool) => mk [(1, .ptr 0 0), (56, .val (.bool x56_1))] [(0, .box (api_Finding.dv f) 44)] 1) (fun (x56_1 : Bool) => g_ref14_Check.j1 f x56_1 = some r) ?_ ?_
 ·refine awp_region (sys _ _ []) 16 416 hU rfl rfl ?_
  refine go_ ?_
  rcases bc_ hg with ⟨h2, hg⟩ | ⟨h2, hg⟩
  ·refine go_ ?_
   refine ch_n fun hU => ?_
   exact ⟨true, hg, sub_ [(0, 0)]⟩
  ·refine go_ ?_
   rcases bc_ hg with ⟨h4, hg⟩ | ⟨h4, hg⟩
   ·refine go_ ?_
    refine ch_n fun hU => ?_
    exact ⟨true, hg, sub_ [(0, 0)]⟩
   ·refine go_ ?_
    obtain ⟨y, hy, hg⟩ := bind_some hg
    refine ca_ (w_ref03_Name _ _ hy) ?_
    refine go_ ?_
    rcases bc_ hg with ⟨h6, hg⟩ | ⟨h6, hg⟩
    ·refine go_ ?_
     refine ch_n fun hU => ?_
     exact ⟨true, hg, sub_ [(0, 0)]⟩
    ·refine go_ ?_
     rcases bc_ hg with ⟨h8, hg⟩ | ⟨h8, hg⟩
     ·refine go_ ?_
      refine ch_n fun hU => ?_
      exact ⟨true, hg, sub_ [(0, 0)]⟩
     ·refine go_ ?_
      rcases bc_ hg with ⟨h10, hg⟩ | ⟨h10, hg⟩
      ·refine go_ ?_
       refine ch_n fun hU => ?_
       exact ⟨true, hg, sub_ [(0, 0)]⟩
      ·refine go_ ?_
       rcases bc_ hg with ⟨h12, hg⟩ | ⟨h12, hg⟩
       ·refine go_ ?_
        refine ch_n fun hU => ?_
        exact ⟨true, hg, sub_ [(0, 0)]⟩
       ·refine go_ ?_
        rcases bc_ hg with ⟨h14, hg⟩ | ⟨h14, hg⟩
        ·refine go_ ?_
         refine ch_n fun hU => ?_
         exact ⟨true, hg, sub_ [(0, 0)]⟩
        ·refine go_ ?_
         rcases bc_ hg with ⟨h16, hg⟩ | ⟨h16, hg⟩
         ·refine go_ ?_
          refine ch_n fun hU => ?_
          exact ⟨true, hg, sub_ [(0, 0)]⟩
         ·refine go_ ?_
          rcases bc_ hg with ⟨h18, hg⟩ | ⟨h18, hg⟩
          ·refine go_ ?_
           refine ch_n fun hU => ?_
           exact ⟨true, hg, sub_ [(0, 0)]⟩
          ·refine go_ ?_
           obtain ⟨y_2, hy_2, hg⟩ := bind_some hg
           refine ca_ (w_ref03_Name _ _ hy_2) ?_
           refine go_ ?_
           refine ch_n fun hU => ?_
           exact ⟨!y_2, hg, sub_ [(0, 0)]⟩
 ·rintro x56_1 hg
  replace hg : g_ref14_Check.j1 f x56_1 = some r := hg
  show awp _ _ _ _ (mk _ _ _)
  unfold g_ref14_Check.j1 at hg
  refine cg_ rfl hg (fun h21 hg => ?_) fun h21 hg => ?_
  ·refine awp_seq ?_
   refine awp_region (sys _ _ []) 1 9 mk_U rfl rfl ?_
   refine go_ ?_
   refine ch_n fun hU => ?_
   refine aw_r ?_
   obtain rfl := Option.some.inj hg
   exact fin_ [] ⟨rfl, rfl⟩
  ·refine awp_skip ?_
   repeat first | refine st_ ?_ | refine sn_ ?_
   refine awp_seq ?_
   refine awp_draw (sys _ _ []) (by kernel_rfl) [0, 1, 0, 7, 0, 16, 48, 0, 128, 384, 15, 1151, 4095] 1 105 mk_U rfl rfl (by kernel_rfl) ?_
   refine go_ ?_
   refine c0_ rfl rfl (.build (r := [.val (.int .i64 0), .val (.int .i64 0)]) und42 pl42 z42 (by kernel_rfl) rfl) rfl rfl ?_
   refine c0_ rfl rfl (steq42_eql f.Use (api_Use.mk 0 0)) rfl rfl ?_
   refine go_ ?_
   refine ch_n fun hU => ?_
   refine sr_ 105 113 hU ?_
   refine go_ ?_
   refine ch_n fun hU => ?_
   refine awp_cut (ι := Bool) (fun (ok_4 : Bool) => mk [(6, .val (.bool ok_4))] [] 0) (fun (ok_4 : Bool) => g_ref14_Check.j4 ok_4 = some r) ?_ ?_
   ·refine awp_seq ?_
    refine awp_region (sys _ _ []) 113 129 hU rfl rfl ?_
    refine go_ ?_
    refine ch_n fun hU => ?_
    refine awp_block ?_
    refine awp_cut (ι := Bool) (fun (x69_2 : Bool) => mk [(1, .ptr 0 0), (3, .val (.bool (decide (f.Use = (api_Use.mk 0 0))))), (4, .val (.bool (decide (f.Number = 0)))), (5, .val (.bool (decide (f.Text = (⟨#[]⟩ : ByteArray))))), (6, .val (.bool false)), (68, .val (.int .i64 f.Kind)), (69, .val (.bool x69_2))] [(0, .box (api_Finding.dv f) 44)] 1) (fun (x69_2 : Bool) => g_ref14_Check.j2 f x69_2 = some r) ?_ ?_
    ·refine awp_seq ?_
     refine awp_region (sys _ _ []) 129 145 hU rfl rfl ?_
     refine go_ ?_
     refine ch_n fun hU => ?_
     refine cg_ rfl hg (fun h27 hg => ?_) fun h27 hg => ?_
     ·refine awp_skip ?_
      repeat first | refine st_ ?_ | refine sn_ ?_
      exact ⟨decide (f.Kind = 1), hg, sub_ [(0, 0)]⟩
     ·refine awp_region (sys _ _ []) 145 161 hU rfl rfl ?_
      refine go_ ?_
      refine ch_n fun hU => ?_
      exact ⟨decide (f.Kind = 8), hg, sub_ [(0, 0)]⟩
    ·rintro x69_2 hg
     replace hg : g_ref14_Check.j2 f x69_2 = some r := hg
     show awp _ _ _ _ (mk _ _ _)
     unfold g_ref14_Check.j2 at hg
     refine cg_ rfl hg (fun h29 hg => ?_) fun h29 hg => ?_
     ·refine awp_region (sys _ _ []) 1 81 mk_U rfl rfl ?_
      refine go_ ?_
      obtain ⟨y_3, hy_3, hg⟩ := bind_some hg
      refine ca_ (w_ref02_Valid _ _ hy_3) ?_
      refine go_ ?_
      rcases bc_ hg with ⟨h30, hg⟩ | ⟨h30, hg⟩
      ·refine go_ ?_
       rcases bc_ hg with ⟨h31, hg⟩ | ⟨h31, hg⟩
       ·refine go_ ?_
        refine ch_n fun hU => ?_
        exact ⟨decide (f.Text = (⟨#[]⟩ : ByteArray)), hg, sub_ []⟩
       ·refine go_ ?_
        refine ch_n fun hU => ?_
        exact ⟨false, hg, sub_ []⟩
      ·refine go_ ?_
       refine ch_n fun hU => ?_
       exact ⟨false, hg, sub_ []⟩
     ·refine awp_seq ?_
      refine awp_region (sys _ _ []) 1 17 mk_U rfl rfl ?_
      refine go_ ?_
      refine ch_n fun hU => ?_
      refine cg_ rfl hg (fun h36 hg => ?_) fun h36 hg => ?_
      ·refine awp_region (sys _ _ []) 17 137 hU rfl rfl ?_
       refine go_ ?_
       rcases bc_ hg with ⟨h37, hg⟩ | ⟨h37, hg⟩
       ·refine go_ ?_
        rcases bc_ hg with ⟨h38, hg⟩ | ⟨h38, hg⟩
        ·refine go_ ?_
         rcases bc_ hg with ⟨h39, hg⟩ | ⟨h39, hg⟩
         ·refine go_ ?_
          refine ch_n fun hU => ?_
          exact ⟨decide (f.Text = (⟨#[]⟩ : ByteArray)), hg, sub_ []⟩
         ·refine go_ ?_
          refine ch_n fun hU => ?_
          exact ⟨false, hg, sub_ []⟩
        ·refine go_ ?_
         refine ch_n fun hU => ?_
         exact ⟨false, hg, sub_ []⟩
       ·refine go_ ?_
        refine ch_n fun hU => ?_
        exact ⟨false, hg, sub_ []⟩
      ·refine awp_seq ?_
       refine awp_region (sys _ _ []) 17 33 hU rfl rfl ?_
       refine go_ ?_
       refine ch_n fun hU => ?_
       refine cg_ rfl hg (fun h45 hg => ?_) fun h45 hg => ?_
       ·refine awp_region (sys _ _ []) 33 169 hU rfl rfl ?_
        refine go_ ?_
        obtain ⟨y_4, hy_4, hg⟩ := bind_some hg
        refine ca_ (w_ref03_Signature _ _ hy_4) ?_
        refine go_ ?_
        rcases bc_ hg with ⟨h46, hg⟩ | ⟨h46, hg⟩
        ·refine go_ ?_
         rcases bc_ hg with ⟨h47, hg⟩ | ⟨h47, hg⟩
         ·refine go_ ?_
          rcases bc_ hg with ⟨h48, hg⟩ | ⟨h48, hg⟩
          ·refine go_ ?_
           refine ch_n fun hU => ?_
           exact ⟨decide (f.Text = (⟨#[]⟩ : ByteArray)), hg, sub_ []⟩
          ·refine go_ ?_
           refine ch_n fun hU => ?_
           exact ⟨false, hg, sub_ []⟩
         ·refine go_ ?_
          refine ch_n fun hU => ?_
          exact ⟨false, hg, sub_ []⟩
        ·refine go_ ?_
         refine ch_n fun hU => ?_
         exact ⟨false, hg, sub_ []⟩
       ·refine awp_cut (ι := Bool) (fun (x115_3 : Bool) => mk [(1, .ptr 0 0), (3, .val (.bool (decide (f.Use = (api_Use.mk 0 0))))), (4, .val (.bool (decide (f.Number = 0)))), (5, .val (.bool (decide (f.Text = (⟨#[]⟩ : ByteArray))))), (6, .val (.bool false)), (68, .val (.int .i64 f.Kind)), (115, .val (.bool x115_3))] [(0, .box (api_Finding.dv f) 44)] 1) (fun (x115_3 : Bool) => g_ref14_Check.j3 f x115_3 = some r) ?_ ?_
        ·refine awp_seq ?_
         refine awp_region (sys _ _ []) 33 49 hU rfl rfl ?_
         refine go_ ?_
         refine ch_n fun hU => ?_
         refine cg_ rfl hg (fun h54 hg => ?_) fun h54 hg => ?_
         ·refine awp_skip ?_
          repeat first | refine st_ ?_ | refine sn_ ?_
          exact ⟨decide (f.Kind = 4), hg, sub_ [(0, 0)]⟩
         ·refine awp_region (sys _ _ []) 49 65 hU rfl rfl ?_
          refine go_ ?_
          refine ch_n fun hU => ?_
          exact ⟨decide (f.Kind = 5), hg, sub_ [(0, 0)]⟩
        ·rintro x115_3 hg
         replace hg : g_ref14_Check.j3 f x115_3 = some r := hg
         show awp _ _ _ _ (mk _ _ _)
         unfold g_ref14_Check.j3 at hg
         refine cg_ rfl hg (fun h56 hg => ?_) fun h56 hg => ?_
         ·refine awp_region (sys _ _ []) 1 121 mk_U rfl rfl ?_
          refine go_ ?_
          rcases bc_ hg with ⟨h57, hg⟩ | ⟨h57, hg⟩
          ·refine go_ ?_
           rcases bc_ hg with ⟨h58, hg⟩ | ⟨h58, hg⟩
           ·refine go_ ?_
            rcases bc_ hg with ⟨h59, hg⟩ | ⟨h59, hg⟩
            ·refine go_ ?_
             refine ch_n fun hU => ?_
             exact ⟨decide (f.Text = (⟨#[]⟩ : ByteArray)), hg, sub_ []⟩
            ·refine go_ ?_
             refine ch_n fun hU => ?_
             exact ⟨false, hg, sub_ []⟩
           ·refine go_ ?_
            refine ch_n fun hU => ?_
            exact ⟨false, hg, sub_ []⟩
          ·refine go_ ?_
           refine ch_n fun hU => ?_
           exact ⟨false, hg, sub_ []⟩
         ·refine awp_seq ?_
          refine awp_region (sys _ _ []) 1 17 mk_U rfl rfl ?_
          refine go_ ?_
          refine ch_n fun hU => ?_
          refine cg_ rfl hg (fun h65 hg => ?_) fun h65 hg => ?_
          ·refine awp_region (sys _ _ []) 17 137 hU rfl rfl ?_
           refine go_ ?_
           rcases bc_ hg with ⟨h66, hg⟩ | ⟨h66, hg⟩
           ·refine go_ ?_
            rcases bc_ hg with ⟨h67, hg⟩ | ⟨h67, hg⟩
            ·refine go_ ?_
             rcases bc_ hg with ⟨h68, hg⟩ | ⟨h68, hg⟩
             ·refine go_ ?_
              refine ch_n fun hU => ?_
              exact ⟨decide (f.Text = (⟨#[]⟩ : ByteArray)), hg, sub_ []⟩
             ·refine go_ ?_
              refine ch_n fun hU => ?_
              exact ⟨false, hg, sub_ []⟩
            ·refine go_ ?_
             refine ch_n fun hU => ?_
             exact ⟨false, hg, sub_ []⟩
           ·refine go_ ?_
            refine ch_n fun hU => ?_
            exact ⟨false, hg, sub_ []⟩
          ·refine awp_seq ?_
           refine awp_region (sys _ _ []) 17 33 hU rfl rfl ?_
           refine go_ ?_
           refine ch_n fun hU => ?_
           refine cg_ rfl hg (fun h74 hg => ?_) fun h74 hg => ?_
           ·refine awp_region (sys _ _ []) 33 113 hU rfl rfl ?_
            refine go_ ?_
            rcases bc_ hg with ⟨h75, hg⟩ | ⟨h75, hg⟩
            ·refine go_ ?_
             rcases bc_ hg with ⟨h76, hg⟩ | ⟨h76, hg⟩
             ·refine go_ ?_
              obtain ⟨y_5, hy_5, hg⟩ := bind_some hg
              refine ca_ (w_ref03_Name _ _ hy_5) ?_
              refine go_ ?_
              refine ch_n fun hU => ?_
              exact ⟨y_5, hg, sub_ []⟩
             ·refine go_ ?_
              refine ch_n fun hU => ?_
              exact ⟨false, hg, sub_ []⟩
            ·refine go_ ?_
             refine ch_n fun hU => ?_
             exact ⟨false, hg, sub_ []⟩
           ·refine awp_skip ?_
            repeat first | refine st_ ?_ | refine sn_ ?_
            exact ⟨false, hg, sub_ []⟩
   ·rintro ok_4 hg
    replace hg : g_ref14_Check.j4 ok_4 = some r := hg
    show awp _ _ _ _ (mk _ _ _)
    unfold g_ref14_Check.j4 at hg
    refine awp_seq ?_
    refine sr_ 0 16 mk_U ?_
    refine go_ ?_
    refine ch_n fun hU => ?_
    refine cg_ rfl hg (fun h81 hg => ?_) fun h81 hg => ?_
    ·refine awp_seq ?_
     refine awp_region (sys _ _ []) 16 24 hU rfl rfl ?_
     refine go_ ?_
     refine ch_n fun hU => ?_
     refine aw_r ?_
     obtain rfl := Option.some.inj hg
     exact fin_ [] ⟨rfl, rfl⟩
    ·refine awp_skip ?_
     repeat first | refine st_ ?_ | refine sn_ ?_
     refine sr_ 16 24 hU ?_
     refine go_ ?_
     refine ch_n fun hU => ?_
     refine aw_r ?_
     obtain rfl := Option.some.inj hg
     exact fin_ [] ⟨rfl, rfl⟩
end Go.Proofs.YtoekocjflclojaaGreat
