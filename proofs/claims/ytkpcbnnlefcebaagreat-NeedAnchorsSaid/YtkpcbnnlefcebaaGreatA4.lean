/- The program computes the plain functions. -/
import Derived.Test.YtkpcbnnlefcebaaGreatT1
set_option linter.unusedVariables false
set_option linter.unusedSimpArgs false
set_option maxRecDepth 100000
set_option maxHeartbeats 1600000
namespace Go.Proofs.YtkpcbnnlefcebaaGreat
open Go.RowKit
theorem w_move_EC  (r : api_Use) (hg : g_move_EC = some r) : Fn Tryz.prog 11 0 [] [] (fun d' b' => d' = .agg [.val (.int .i64 r.Alg), .val (.int .i64 r.Bits)] ∧ b' = []) := by
 unfold g_move_EC at hg
 refine Fn.of Tryz.func11 rfl rfl rfl fun w0 I ρ0 => ?_
 show awp _ ⟨w0, I, ρ0, 0, 0, 2⟩ _ _ _
 refine sr_ 0 8 mk_U ?_
 refine go_ ?_
 refine ch_n fun hU => ?_
 refine sr_ 8 24 hU ?_
 refine c0_ rfl rfl (.build (r := [.val (.int .i64 7), .val (.int .i64 256)]) und39 pl39 z39 (by kernel_rfl) rfl) rfl rfl ?_
 refine go_ ?_
 refine ch_n fun hU => ?_
 refine aw_r ?_
 obtain rfl := Option.some.inj hg
 exact fin_ [] ⟨rfl, rfl⟩
theorem w_internal_stringslite_IndexByte (s : ByteArray) (c : UInt8) (r : Int) (hg : g_internal_stringslite_IndexByte s c = some r) : Fn Tryz.prog 157 0 [.val (.string s), .val (.int .u8 (c.toNat : Int))] [] (fun d' b' => d' = .val (.int .i64 r) ∧ b' = []) := by
 unfold g_internal_stringslite_IndexByte at hg
 refine Fn.of Tryz.func157 rfl rfl rfl fun w0 I ρ0 => ?_
 show awp _ ⟨w0, I, ρ0, 0, 0, 8⟩ _ _ _
 refine sr_ 0 8 mk_U ?_
 refine go_ ?_
 refine ch_n fun hU => ?_
 refine sr_ 8 40 hU ?_
 refine go_ ?_
 refine ch_x (rd := []) rfl rfl (.extV rfl idxB_ok (x164 s c)) rfl rfl (fun _ => ⟨_, rfl⟩) ?_
 rintro _ rfl
 refine go_ ?_
 refine ch_n fun hU => ?_
 refine aw_r ?_
 obtain rfl := Option.some.inj hg
 exact fin_ [] ⟨rfl, rfl⟩
theorem w_strings_IndexByte (s : ByteArray) (c : UInt8) (r : Int) (hg : g_strings_IndexByte s c = some r) : Fn Tryz.prog 144 0 [.val (.string s), .val (.int .u8 (c.toNat : Int))] [] (fun d' b' => d' = .val (.int .i64 r) ∧ b' = []) := by
 unfold g_strings_IndexByte at hg
 refine Fn.of Tryz.func144 rfl rfl rfl fun w0 I ρ0 => ?_
 show awp _ ⟨w0, I, ρ0, 0, 0, 8⟩ _ _ _
 refine sr_ 0 8 mk_U ?_
 refine go_ ?_
 refine ch_n fun hU => ?_
 refine sr_ 8 40 hU ?_
 refine go_ ?_
 obtain ⟨y, hy, hg⟩ := bind_some hg
 refine ca_ (w_internal_stringslite_IndexByte _ _ _ hy) ?_
 refine go_ ?_
 refine ch_n fun hU => ?_
 refine aw_r ?_
 obtain rfl := Option.some.inj hg
 exact fin_ [] ⟨rfl, rfl⟩
theorem w_settings_Letter (c : UInt8) (others : ByteArray) (r : Bool) (hg : g_settings_Letter c others = some r) : Fn Tryz.prog 118 0 [.val (.int .u8 (c.toNat : Int)), .val (.string others)] [] (fun d' b' => d' = .val (.bool r) ∧ b' = []) := by
 unfold g_settings_Letter at hg
 refine Fn.of Tryz.func118 rfl rfl rfl fun w0 I ρ0 => ?_
 show awp _ ⟨w0, I, ρ0, 0, 0, 33⟩ _ _ _
 refine sr_ 0 8 mk_U ?_
 refine go_ ?_
 refine ch_n fun hU => ?_
 refine sr_ 8 240 hU ?_
 refine go_ ?_
 rcases bc_ hg with ⟨h2, hg⟩ | ⟨h2, hg⟩
 ·refine go_ ?_
  rcases bc_ hg with ⟨h3, hg⟩ | ⟨h3, hg⟩
  ·refine go_ ?_
   refine ch_n fun hU => ?_
   refine aw_r ?_
   obtain rfl := Option.some.inj hg
   exact fin_ [] ⟨rfl, rfl⟩
  ·refine go_ ?_
   rcases bc_ hg with ⟨h5, hg⟩ | ⟨h5, hg⟩
   ·refine go_ ?_
    rcases bc_ hg with ⟨h6, hg⟩ | ⟨h6, hg⟩
    ·refine go_ ?_
     refine ch_n fun hU => ?_
     refine aw_r ?_
     obtain rfl := Option.some.inj hg
     exact fin_ [] ⟨rfl, rfl⟩
    ·refine go_ ?_
     rcases bc_ hg with ⟨h8, hg⟩ | ⟨h8, hg⟩
     ·refine go_ ?_
      rcases bc_ hg with ⟨h9, hg⟩ | ⟨h9, hg⟩
      ·refine go_ ?_
       refine ch_n fun hU => ?_
       refine aw_r ?_
       obtain rfl := Option.some.inj hg
       exact fin_ [] ⟨rfl, rfl⟩
      ·refine go_ ?_
       obtain ⟨y, hy, hg⟩ := bind_some hg
       refine ca_ (w_strings_IndexByte _ _ _ hy) ?_
       refine go_ ?_
       refine ch_n fun hU => ?_
       refine aw_r ?_
       obtain rfl := Option.some.inj hg
       exact fin_ [] ⟨rfl, rfl⟩
     ·refine go_ ?_
      obtain ⟨y_2, hy_2, hg⟩ := bind_some hg
      refine ca_ (w_strings_IndexByte _ _ _ hy_2) ?_
      refine go_ ?_
      refine ch_n fun hU => ?_
      refine aw_r ?_
      obtain rfl := Option.some.inj hg
      exact fin_ [] ⟨rfl, rfl⟩
   ·refine go_ ?_
    rcases bc_ hg with ⟨h13, hg⟩ | ⟨h13, hg⟩
    ·refine go_ ?_
     rcases bc_ hg with ⟨h14, hg⟩ | ⟨h14, hg⟩
     ·refine go_ ?_
      refine ch_n fun hU => ?_
      refine aw_r ?_
      obtain rfl := Option.some.inj hg
      exact fin_ [] ⟨rfl, rfl⟩
     ·refine go_ ?_
      obtain ⟨y_3, hy_3, hg⟩ := bind_some hg
      refine ca_ (w_strings_IndexByte _ _ _ hy_3) ?_
      refine go_ ?_
      refine ch_n fun hU => ?_
      refine aw_r ?_
      obtain rfl := Option.some.inj hg
      exact fin_ [] ⟨rfl, rfl⟩
    ·refine go_ ?_
     obtain ⟨y_4, hy_4, hg⟩ := bind_some hg
     refine ca_ (w_strings_IndexByte _ _ _ hy_4) ?_
     refine go_ ?_
     refine ch_n fun hU => ?_
     refine aw_r ?_
     obtain rfl := Option.some.inj hg
     exact fin_ [] ⟨rfl, rfl⟩
 ·refine go_ ?_
  rcases bc_ hg with ⟨h18, hg⟩ | ⟨h18, hg⟩
  ·refine go_ ?_
   rcases bc_ hg with ⟨h19, hg⟩ | ⟨h19, hg⟩
   ·refine go_ ?_
    refine ch_n fun hU => ?_
    refine aw_r ?_
    obtain rfl := Option.some.inj hg
    exact fin_ [] ⟨rfl, rfl⟩
   ·refine go_ ?_
    rcases bc_ hg with ⟨h21, hg⟩ | ⟨h21, hg⟩
    ·refine go_ ?_
     rcases bc_ hg with ⟨h22, hg⟩ | ⟨h22, hg⟩
     ·refine go_ ?_
      refine ch_n fun hU => ?_
      refine aw_r ?_
      obtain rfl := Option.some.inj hg
      exact fin_ [] ⟨rfl, rfl⟩
     ·refine go_ ?_
      obtain ⟨y_5, hy_5, hg⟩ := bind_some hg
      refine ca_ (w_strings_IndexByte _ _ _ hy_5) ?_
      refine go_ ?_
      refine ch_n fun hU => ?_
      refine aw_r ?_
      obtain rfl := Option.some.inj hg
      exact fin_ [] ⟨rfl, rfl⟩
    ·refine go_ ?_
     obtain ⟨y_6, hy_6, hg⟩ := bind_some hg
     refine ca_ (w_strings_IndexByte _ _ _ hy_6) ?_
     refine go_ ?_
     refine ch_n fun hU => ?_
     refine aw_r ?_
     obtain rfl := Option.some.inj hg
     exact fin_ [] ⟨rfl, rfl⟩
  ·refine go_ ?_
   rcases bc_ hg with ⟨h26, hg⟩ | ⟨h26, hg⟩
   ·refine go_ ?_
    rcases bc_ hg with ⟨h27, hg⟩ | ⟨h27, hg⟩
    ·refine go_ ?_
     refine ch_n fun hU => ?_
     refine aw_r ?_
     obtain rfl := Option.some.inj hg
     exact fin_ [] ⟨rfl, rfl⟩
    ·refine go_ ?_
     obtain ⟨y_7, hy_7, hg⟩ := bind_some hg
     refine ca_ (w_strings_IndexByte _ _ _ hy_7) ?_
     refine go_ ?_
     refine ch_n fun hU => ?_
     refine aw_r ?_
     obtain rfl := Option.some.inj hg
     exact fin_ [] ⟨rfl, rfl⟩
   ·refine go_ ?_
    obtain ⟨y_8, hy_8, hg⟩ := bind_some hg
    refine ca_ (w_strings_IndexByte _ _ _ hy_8) ?_
    refine go_ ?_
    refine ch_n fun hU => ?_
    refine aw_r ?_
    obtain rfl := Option.some.inj hg
    exact fin_ [] ⟨rfl, rfl⟩
theorem w_settings_Word (s : ByteArray) (r : Bool) (hg : g_settings_Word s = some r) : Fn Tryz.prog 85 0 [.val (.string s)] [] (fun d' b' => d' = .val (.bool r) ∧ b' = []) := by
 unfold g_settings_Word at hg
 refine Fn.of Tryz.func85 rfl rfl rfl fun w0 I ρ0 => ?_
 show awp _ ⟨w0, I, ρ0, 0, 0, 24⟩ _ _ _
 refine sr_ 0 8 mk_U ?_
 refine go_ ?_
 refine ch_n fun hU => ?_
 refine awp_seq ?_
 refine sr_ 8 40 hU ?_
 refine go_ ?_
 refine c0_ rfl rfl (r_convB und9 und110 und5) rfl rfl ?_
 refine go_ ?_
 refine ch_n fun hU => ?_
 refine awp_block ?_
 refine lp_ (fun (x8_1 : Int) => mk [(0, .val (.string s)), (6, .sl 1 (encL e8 (toB s))), (7, .val (.int .i64 ((toB s).length : Int))), (8, .val (.int .i64 x8_1))] [] 0) hg (sub_ []) ?_
 rintro x8_1 m1 o1 hg hn1
 replace hg : g_settings_Word.l1 s x8_1 = some o1 := hg
 show awp _ _ _ _ (mk _ _ _)
 unfold g_settings_Word.l1 at hg
 refine sr_ 0 8 mk_U ?_
 refine go_ ?_
 refine ch_n fun hU => ?_
 refine awp_seq ?_
 refine cg_ rfl hg (fun h4 hg => ?_) fun h4 hg => ?_
 ·refine awp_skip ?_
  repeat first | refine st_ ?_ | refine sn_ ?_
  refine awp_seq ?_
  refine awp_block ?_
  refine sr_ 8 32 hU ?_
  obtain ⟨e, he, hg⟩ := bind_some hg
  refine go_ ?_
  refine c0_ rfl rfl (r_loadE1 ty5 (enc_cell e8_len (getI_at he) (o := 0) (c := .int .u8 (e.toNat : Int)) rfl rfl)) rfl rfl ?_
  refine go_ ?_
  refine ch_n fun hU => ?_
  refine sr_ 32 56 hU ?_
  refine go_ ?_
  obtain ⟨y, hy, hg⟩ := bind_some hg
  refine ca_ (w_settings_Letter _ _ _ hy) ?_
  refine go_ ?_
  refine ch_n fun hU => ?_
  refine cg_ rfl hg (fun h7 hg => ?_) fun h7 hg => ?_
  ·refine awp_seq ?_
   refine awp_region (sys _ _ []) 56 64 hU rfl rfl ?_
   refine go_ ?_
   refine ch_n fun hU => ?_
   refine aw_r ?_
   replace hg := leave hg hn1
   obtain rfl := Option.some.inj hg
   exact fin_ [] ⟨rfl, rfl⟩
  ·refine awp_skip ?_
   repeat first | refine st_ ?_ | refine sn_ ?_
   refine awp_region (sys _ _ []) 56 72 hU rfl rfl ?_
   refine go_ ?_
   refine ch_n fun hU => ?_
   obtain rfl := Option.some.inj hg
   exact ⟨(W (x8_1 + 1), m1), Nat.lt_succ_self _, hn1, sub_ []⟩
 ·refine awp_exit ?_
  repeat first | refine st_ ?_ | refine sn_ ?_
  replace hg := leave hg hn1
  refine sr_ 8 80 hU ?_
  refine go_ ?_
  refine c0_ rfl rfl (r_lenT und9) rfl rfl ?_
  refine go_ ?_
  rcases bc_ hg with ⟨h10, hg⟩ | ⟨h10, hg⟩
  ·refine go_ ?_
   refine c0_ (gdv_t rfl rfl h10) rfl (r_lenT und9) rfl rfl ?_
   refine go_ ?_
   refine ch_n fun hU => ?_
   refine aw_r ?_
   obtain rfl := Option.some.inj hg
   exact fin_ [] ⟨rfl, rfl⟩
  ·refine go_ ?_
   refine ch_n fun hU => ?_
   refine aw_r ?_
   obtain rfl := Option.some.inj hg
   exact fin_ [] ⟨rfl, rfl⟩
theorem w_catalog_use (alg : Int) (bits : Int) (r : api_Use) (hg : g_catalog_use alg bits = some r) : Fn Tryz.prog 158 0 [.val (.int .i64 alg), .val (.int .i64 bits)] [] (fun d' b' => d' = .agg [.val (.int .i64 r.Alg), .val (.int .i64 r.Bits)] ∧ b' = []) := by
 unfold g_catalog_use at hg
 refine Fn.of Tryz.func158 rfl rfl rfl fun w0 I ρ0 => ?_
 show awp _ ⟨w0, I, ρ0, 0, 0, 8⟩ _ _ _
 refine sr_ 0 8 mk_U ?_
 refine go_ ?_
 refine ch_n fun hU => ?_
 refine sr_ 8 40 hU ?_
 refine go_ ?_
 refine c0_ rfl rfl (.build (r := [.val (.int .i64 alg), .val (.int .i64 bits)]) und39 pl39 z39 (by kernel_rfl) rfl) rfl rfl ?_
 refine go_ ?_
 refine ch_n fun hU => ?_
 refine aw_r ?_
 obtain rfl := Option.some.inj hg
 exact fin_ [] ⟨rfl, rfl⟩
theorem w_catalog_Suites  (r : (List api_Suite)) (hg : g_catalog_Suites = some r) : Fn Tryz.prog 145 0 [] [] (fun d' b' => d' = .sl 12 (encL api_Suite.enc r) ∧ b' = []) := by
 unfold g_catalog_Suites at hg
 refine Fn.of Tryz.func145 rfl rfl rfl fun w0 I ρ0 => ?_
 show awp _ ⟨w0, I, ρ0, 0, 0, 125⟩ _ _ _
 refine sr_ 0 8 mk_U ?_
 refine go_ ?_
 refine ch_n fun hU => ?_
 refine sr_ 8 128 hU ?_
 obtain ⟨y, hy, hg⟩ := bind_some hg
 refine ca_ (w_catalog_use _ _ _ hy) ?_
 obtain ⟨y_2, hy_2, hg⟩ := bind_some hg
 refine ca_ (w_catalog_use _ _ _ hy_2) ?_
 obtain ⟨y_3, hy_3, hg⟩ := bind_some hg
 refine ca_ (w_catalog_use _ _ _ hy_3) ?_
 obtain ⟨y_4, hy_4, hg⟩ := bind_some hg
 refine ca_ (w_catalog_use _ _ _ hy_4) ?_
 refine c0_ rfl rfl (.build (r := [.val (.int .i64 0), .val (.int .i64 0)]) und39 pl39 z39 (by kernel_rfl) rfl) rfl rfl ?_
 refine go_ ?_
 refine ch_n fun hU => ?_
 refine sr_ 128 248 hU ?_
 obtain ⟨y_5, hy_5, hg⟩ := bind_some hg
 refine ca_ (w_catalog_use _ _ _ hy_5) ?_
 obtain ⟨y_6, hy_6, hg⟩ := bind_some hg
 refine ca_ (w_catalog_use _ _ _ hy_6) ?_
 obtain ⟨y_7, hy_7, hg⟩ := bind_some hg
 refine ca_ (w_catalog_use _ _ _ hy_7) ?_
 obtain ⟨y_8, hy_8, hg⟩ := bind_some hg
 refine ca_ (w_catalog_use _ _ _ hy_8) ?_
 obtain ⟨y_9, hy_9, hg⟩ := bind_some hg
 refine ca_ (w_catalog_use _ _ _ hy_9) ?_
 refine go_ ?_
 refine ch_n fun hU => ?_
 refine sr_ 248 344 hU ?_
 obtain ⟨y_10, hy_10, hg⟩ := bind_some hg
 refine ca_ (w_catalog_use _ _ _ hy_10) ?_
 obtain ⟨y_11, hy_11, hg⟩ := bind_some hg
 refine ca_ (w_catalog_use _ _ _ hy_11) ?_
 obtain ⟨y_12, hy_12, hg⟩ := bind_some hg
 refine ca_ (w_catalog_use _ _ _ hy_12) ?_
 obtain ⟨y_13, hy_13, hg⟩ := bind_some hg
 refine ca_ (w_catalog_use _ _ _ hy_13) ?_
 refine go_ ?_
 refine ch_n fun hU => ?_
 refine awp_seq ?_
 refine awp_draw (sys _ _ []) (by kernel_rfl) [0, 0, 0, 0, 15, 0, 0, 4, 0, 484, 0, 0, 0, 0, 15360, 132, 0, 0, 0, 491652, 32900, 0, 0, 0, 15761540, 0, 0, 0, 0, 503316480, 1081476, 0, 0, 0, 16107208836, 0, 0, 0, 0, 515396075520, 0, 0, 1074823300, 4399121334404, 16493749239940, 0, 0, 0, 0, 527765581332480, 13195214356612, 0, 0, 0, 16901693816995972, 0, 0, 0, 0, 540431955284459520, 0, 0, 0, 0, 17293822569102704640, 0, 0, 0, 0, 553402322211286548480, 0, 0, 0, 0, 17708874310761169551360, 1139095121199236, 0, 0, 0, 566683979083452546842756, 1208925819614629174706175, 2417851639229258349412351] 344 1000 hU rfl rfl (by kernel_rfl) ?_
 refine go_ ?_
 obtain ⟨y_14, hy_14, hg⟩ := bind_some hg
 refine ca_ (w_catalog_use _ _ _ hy_14) ?_
 refine go_ ?_
 refine c0_ rfl rfl (.build (r := [.val (.int .i64 0), .val (.string (⟨#[114, 115, 97, 45, 114, 99, 52, 45, 109, 100, 53]⟩ : ByteArray)), .val (.int .i64 y.Alg), .val (.int .i64 y.Bits), .val (.int .i64 y_2.Alg), .val (.int .i64 y_2.Bits), .val (.int .i64 y_14.Alg), .val (.int .i64 y_14.Bits), .val (.int .i64 y_10.Alg), .val (.int .i64 y_10.Bits), .val (.int .i64 1), .val (.int .i64 2)]) und152 pl152 z152 (by kernel_rfl) rfl) rfl rfl ?_
 refine go_ ?_
 obtain ⟨y_15, hy_15, hg⟩ := bind_some hg
 refine ca_ (w_catalog_use _ _ _ hy_15) ?_
 refine go_ ?_
 refine c0_ rfl rfl (.build (r := [.val (.int .i64 0), .val (.string (⟨#[114, 115, 97, 45, 114, 99, 52, 45, 115, 104, 97]⟩ : ByteArray)), .val (.int .i64 y.Alg), .val (.int .i64 y.Bits), .val (.int .i64 y_2.Alg), .val (.int .i64 y_2.Bits), .val (.int .i64 y_15.Alg), .val (.int .i64 y_15.Bits), .val (.int .i64 y_11.Alg), .val (.int .i64 y_11.Bits), .val (.int .i64 1), .val (.int .i64 3)]) und152 pl152 z152 (by kernel_rfl) rfl) rfl rfl ?_
 refine go_ ?_
 refine c0_ rfl rfl (.build (r := [.val (.int .i64 0), .val (.string (⟨#[114, 115, 97, 45, 100, 101, 115, 51, 45, 115, 104, 97]⟩ : ByteArray)), .val (.int .i64 y.Alg), .val (.int .i64 y.Bits), .val (.int .i64 y_2.Alg), .val (.int .i64 y_2.Bits), .val (.int .i64 y_5.Alg), .val (.int .i64 y_5.Bits), .val (.int .i64 y_11.Alg), .val (.int .i64 y_11.Bits), .val (.int .i64 1), .val (.int .i64 3)]) und152 pl152 z152 (by kernel_rfl) rfl) rfl rfl ?_
 obtain ⟨y_16, hy_16, hg⟩ := bind_some hg
 refine ca_ (w_catalog_use _ _ _ hy_16) ?_
 refine go_ ?_
 refine c0_ rfl rfl (.build (r := [.val (.int .i64 0), .val (.string (⟨#[100, 104, 101, 45, 100, 115, 97, 45, 100, 101, 115, 51, 45, 115, 104, 97]⟩ : ByteArray)), .val (.int .i64 y_16.Alg), .val (.int .i64 y_16.Bits), .val (.int .i64 y_3.Alg), .val (.int .i64 y_3.Bits), .val (.int .i64 y_5.Alg), .val (.int .i64 y_5.Bits), .val (.int .i64 y_11.Alg), .val (.int .i64 y_11.Bits), .val (.int .i64 1), .val (.int .i64 3)]) und152 pl152 z152 (by kernel_rfl) rfl) rfl rfl ?_
 obtain ⟨y_17, hy_17, hg⟩ := bind_some hg
 refine ca_ (w_catalog_use _ _ _ hy_17) ?_
 refine go_ ?_
 refine c0_ rfl rfl (.build (r := [.val (.int .i64 0), .val (.string (⟨#[100, 104, 101, 45, 114, 115, 97, 45, 100, 101, 115, 51, 45, 115, 104, 97]⟩ : ByteArray)), .val (.int .i64 y_17.Alg), .val (.int .i64 y_17.Bits), .val (.int .i64 y_2.Alg), .val (.int .i64 y_2.Bits), .val (.int .i64 y_5.Alg), .val (.int .i64 y_5.Bits), .val (.int .i64 y_11.Alg), .val (.int .i64 y_11.Bits), .val (.int .i64 1), .val (.int .i64 3)]) und152 pl152 z152 (by kernel_rfl) rfl) rfl rfl ?_
 refine go_ ?_
 refine c0_ rfl rfl (.build (r := [.val (.int .i64 0), .val (.string (⟨#[114, 115, 97, 45, 97, 101, 115, 49, 50, 56, 45, 115, 104, 97]⟩ : ByteArray)), .val (.int .i64 y.Alg), .val (.int .i64 y.Bits), .val (.int .i64 y_2.Alg), .val (.int .i64 y_2.Bits), .val (.int .i64 y_6.Alg), .val (.int .i64 y_6.Bits), .val (.int .i64 y_11.Alg), .val (.int .i64 y_11.Bits), .val (.int .i64 1), .val (.int .i64 3)]) und152 pl152 z152 (by kernel_rfl) rfl) rfl rfl ?_
 obtain ⟨y_18, hy_18, hg⟩ := bind_some hg
 refine ca_ (w_catalog_use _ _ _ hy_18) ?_
 refine go_ ?_
 refine c0_ rfl rfl (.build (r := [.val (.int .i64 0), .val (.string (⟨#[100, 104, 101, 45, 114, 115, 97, 45, 97, 101, 115, 49, 50, 56, 45, 115, 104, 97]⟩ : ByteArray)), .val (.int .i64 y_18.Alg), .val (.int .i64 y_18.Bits), .val (.int .i64 y_2.Alg), .val (.int .i64 y_2.Bits), .val (.int .i64 y_6.Alg), .val (.int .i64 y_6.Bits), .val (.int .i64 y_11.Alg), .val (.int .i64 y_11.Bits), .val (.int .i64 1), .val (.int .i64 3)]) und152 pl152 z152 (by kernel_rfl) rfl) rfl rfl ?_
 refine go_ ?_
 refine c0_ rfl rfl (.build (r := [.val (.int .i64 0), .val (.string (⟨#[101, 99, 100, 104, 101, 45, 114, 115, 97, 45, 97, 101, 115, 49, 50, 56, 45, 115, 104, 97]⟩ : ByteArray)), .val (.int .i64 y_13.Alg), .val (.int .i64 y_13.Bits), .val (.int .i64 y_2.Alg), .val (.int .i64 y_2.Bits), .val (.int .i64 y_6.Alg), .val (.int .i64 y_6.Bits), .val (.int .i64 y_11.Alg), .val (.int .i64 y_11.Bits), .val (.int .i64 1), .val (.int .i64 3)]) und152 pl152 z152 (by kernel_rfl) rfl) rfl rfl ?_
 refine go_ ?_
 obtain ⟨y_19, hy_19, hg⟩ := bind_some hg
 refine ca_ (w_catalog_use _ _ _ hy_19) ?_
 obtain ⟨y_20, hy_20, hg⟩ := bind_some hg
 refine ca_ (w_catalog_use _ _ _ hy_20) ?_
 refine c0_ rfl rfl (.build (r := [.val (.int .i64 0), .val (.string (⟨#[101, 99, 100, 104, 101, 45, 101, 99, 100, 115, 97, 45, 97, 101, 115, 50, 53, 54, 45, 115, 104, 97, 50, 53, 54]⟩ : ByteArray)), .val (.int .i64 y_13.Alg), .val (.int .i64 y_13.Bits), .val (.int .i64 y_4.Alg), .val (.int .i64 y_4.Bits), .val (.int .i64 y_19.Alg), .val (.int .i64 y_19.Bits), .val (.int .i64 y_20.Alg), .val (.int .i64 y_20.Bits), .val (.int .i64 3), .val (.int .i64 3)]) und152 pl152 z152 (by kernel_rfl) rfl) rfl rfl ?_
 refine go_ ?_
 refine c0_ rfl rfl (.build (r := [.val (.int .i64 0), .val (.string (⟨#[101, 99, 100, 104, 101, 45, 114, 115, 97, 45, 97, 101, 115, 49, 50, 56, 45, 103, 99, 109]⟩ : ByteArray)), .val (.int .i64 y_13.Alg), .val (.int .i64 y_13.Bits), .val (.int .i64 y_2.Alg), .val (.int .i64 y_2.Bits), .val (.int .i64 y_7.Alg), .val (.int .i64 y_7.Bits), .val (.int .i64 y_12.Alg), .val (.int .i64 y_12.Bits), .val (.int .i64 3), .val (.int .i64 3)]) und152 pl152 z152 (by kernel_rfl) rfl) rfl rfl ?_
 obtain ⟨y_21, hy_21, hg⟩ := bind_some hg
 refine ca_ (w_catalog_use _ _ _ hy_21) ?_
 refine go_ ?_
 refine c0_ rfl rfl (.build (r := [.val (.int .i64 0), .val (.string (⟨#[101, 99, 100, 104, 101, 45, 101, 99, 100, 115, 97, 45, 97, 101, 115, 50, 53, 54, 45, 103, 99, 109]⟩ : ByteArray)), .val (.int .i64 y_21.Alg), .val (.int .i64 y_21.Bits), .val (.int .i64 y_4.Alg), .val (.int .i64 y_4.Bits), .val (.int .i64 y_8.Alg), .val (.int .i64 y_8.Bits), .val (.int .i64 y_12.Alg), .val (.int .i64 y_12.Bits), .val (.int .i64 3), .val (.int .i64 3)]) und152 pl152 z152 (by kernel_rfl) rfl) rfl rfl ?_
 refine go_ ?_
 refine c0_ rfl rfl (.build (r := [.val (.int .i64 0), .val (.string (⟨#[101, 99, 100, 104, 101, 45, 114, 115, 97, 45, 99, 104, 97, 99, 104, 97]⟩ : ByteArray)), .val (.int .i64 y_13.Alg), .val (.int .i64 y_13.Bits), .val (.int .i64 y_2.Alg), .val (.int .i64 y_2.Bits), .val (.int .i64 y_9.Alg), .val (.int .i64 y_9.Bits), .val (.int .i64 y_12.Alg), .val (.int .i64 y_12.Bits), .val (.int .i64 3), .val (.int .i64 3)]) und152 pl152 z152 (by kernel_rfl) rfl) rfl rfl ?_
 refine go_ ?_
 refine c0_ rfl rfl (.build (r := [.val (.int .i64 0), .val (.string (⟨#[114, 115, 97, 45, 97, 101, 115, 50, 53, 54, 45, 103, 99, 109]⟩ : ByteArray)), .val (.int .i64 y.Alg), .val (.int .i64 y.Bits), .val (.int .i64 y_2.Alg), .val (.int .i64 y_2.Bits), .val (.int .i64 y_8.Alg), .val (.int .i64 y_8.Bits), .val (.int .i64 y_12.Alg), .val (.int .i64 y_12.Bits), .val (.int .i64 3), .val (.int .i64 3)]) und152 pl152 z152 (by kernel_rfl) rfl) rfl rfl ?_
 refine go_ ?_
 refine c0_ rfl rfl (.build (r := [.val (.int .i64 0), .val (.string (⟨#[97, 101, 115, 49, 50, 56, 45, 103, 99, 109]⟩ : ByteArray)), .val (.int .i64 y_13.Alg), .val (.int .i64 y_13.Bits), .val (.int .i64 0), .val (.int .i64 0), .val (.int .i64 y_7.Alg), .val (.int .i64 y_7.Bits), .val (.int .i64 y_12.Alg), .val (.int .i64 y_12.Bits), .val (.int .i64 4), .val (.int .i64 4)]) und152 pl152 z152 (by kernel_rfl) rfl) rfl rfl ?_
 refine go_ ?_
 refine c0_ rfl rfl (.build (r := [.val (.int .i64 0), .val (.string (⟨#[99, 104, 97, 99, 104, 97]⟩ : ByteArray)), .val (.int .i64 y_13.Alg), .val (.int .i64 y_13.Bits), .val (.int .i64 0), .val (.int .i64 0), .val (.int .i64 y_9.Alg), .val (.int .i64 y_9.Bits), .val (.int .i64 y_12.Alg), .val (.int .i64 y_12.Bits), .val (.int .i64 4), .val (.int .i64 4)]) und152 pl152 z152 (by kernel_rfl) rfl) rfl rfl ?_
 obtain ⟨y_22, hy_22, hg⟩ := bind_some hg
 refine ca_ (w_catalog_use _ _ _ hy_22) ?_
 refine go_ ?_
 refine c0_ rfl rfl (.build (r := [.val (.int .i64 0), .val (.string (⟨#[109, 108, 107, 101, 109, 45, 97, 101, 115, 50, 53, 54, 45, 103, 99, 109]⟩ : ByteArray)), .val (.int .i64 y_22.Alg), .val (.int .i64 y_22.Bits), .val (.int .i64 0), .val (.int .i64 0), .val (.int .i64 y_8.Alg), .val (.int .i64 y_8.Bits), .val (.int .i64 y_12.Alg), .val (.int .i64 y_12.Bits), .val (.int .i64 4), .val (.int .i64 4)]) und152 pl152 z152 (by kernel_rfl) rfl) rfl rfl ?_
 refine c0_ rfl rfl (r_buildFull sl181 z152 (by decide) rfl rfl rfl rfl ck152 (cs := [.int .i64 0, .str (⟨#[114, 115, 97, 45, 114, 99, 52, 45, 109, 100, 53]⟩ : ByteArray), .int .i64 y.Alg, .int .i64 y.Bits, .int .i64 y_2.Alg, .int .i64 y_2.Bits, .int .i64 y_14.Alg, .int .i64 y_14.Bits, .int .i64 y_10.Alg, .int .i64 y_10.Bits, .int .i64 1, .int .i64 2, .int .i64 0, .str (⟨#[114, 115, 97, 45, 114, 99, 52, 45, 115, 104, 97]⟩ : ByteArray), .int .i64 y.Alg, .int .i64 y.Bits, .int .i64 y_2.Alg, .int .i64 y_2.Bits, .int .i64 y_15.Alg, .int .i64 y_15.Bits, .int .i64 y_11.Alg, .int .i64 y_11.Bits, .int .i64 1, .int .i64 3, .int .i64 0, .str (⟨#[114, 115, 97, 45, 100, 101, 115, 51, 45, 115, 104, 97]⟩ : ByteArray), .int .i64 y.Alg, .int .i64 y.Bits, .int .i64 y_2.Alg, .int .i64 y_2.Bits, .int .i64 y_5.Alg, .int .i64 y_5.Bits, .int .i64 y_11.Alg, .int .i64 y_11.Bits, .int .i64 1, .int .i64 3, .int .i64 0, .str (⟨#[100, 104, 101, 45, 100, 115, 97, 45, 100, 101, 115, 51, 45, 115, 104, 97]⟩ : ByteArray), .int .i64 y_16.Alg, .int .i64 y_16.Bits, .int .i64 y_3.Alg, .int .i64 y_3.Bits, .int .i64 y_5.Alg, .int .i64 y_5.Bits, .int .i64 y_11.Alg, .int .i64 y_11.Bits, .int .i64 1, .int .i64 3, .int .i64 0, .str (⟨#[100, 104, 101, 45, 114, 115, 97, 45, 100, 101, 115, 51, 45, 115, 104, 97]⟩ : ByteArray), .int .i64 y_17.Alg, .int .i64 y_17.Bits, .int .i64 y_2.Alg, .int .i64 y_2.Bits, .int .i64 y_5.Alg, .int .i64 y_5.Bits, .int .i64 y_11.Alg, .int .i64 y_11.Bits, .int .i64 1, .int .i64 3, .int .i64 0, .str (⟨#[114, 115, 97, 45, 97, 101, 115, 49, 50, 56, 45, 115, 104, 97]⟩ : ByteArray), .int .i64 y.Alg, .int .i64 y.Bits, .int .i64 y_2.Alg, .int .i64 y_2.Bits, .int .i64 y_6.Alg, .int .i64 y_6.Bits, .int .i64 y_11.Alg, .int .i64 y_11.Bits, .int .i64 1, .int .i64 3, .int .i64 0, .str (⟨#[100, 104, 101, 45, 114, 115, 97, 45, 97, 101, 115, 49, 50, 56, 45, 115, 104, 97]⟩ : ByteArray), .int .i64 y_18.Alg, .int .i64 y_18.Bits, .int .i64 y_2.Alg, .int .i64 y_2.Bits, .int .i64 y_6.Alg, .int .i64 y_6.Bits, .int .i64 y_11.Alg, .int .i64 y_11.Bits, .int .i64 1, .int .i64 3, .int .i64 0, .str (⟨#[101, 99, 100, 104, 101, 45, 114, 115, 97, 45, 97, 101, 115, 49, 50, 56, 45, 115, 104, 97]⟩ : ByteArray), .int .i64 y_13.Alg, .int .i64 y_13.Bits, .int .i64 y_2.Alg, .int .i64 y_2.Bits, .int .i64 y_6.Alg, .int .i64 y_6.Bits, .int .i64 y_11.Alg, .int .i64 y_11.Bits, .int .i64 1, .int .i64 3, .int .i64 0, .str (⟨#[101, 99, 100, 104, 101, 45, 101, 99, 100, 115, 97, 45, 97, 101, 115, 50, 53, 54, 45, 115, 104, 97, 50, 53, 54]⟩ : ByteArray), .int .i64 y_13.Alg, .int .i64 y_13.Bits, .int .i64 y_4.Alg, .int .i64 y_4.Bits, .int .i64 y_19.Alg, .int .i64 y_19.Bits, .int .i64 y_20.Alg, .int .i64 y_20.Bits, .int .i64 3, .int .i64 3, .int .i64 0, .str (⟨#[101, 99, 100, 104, 101, 45, 114, 115, 97, 45, 97, 101, 115, 49, 50, 56, 45, 103, 99, 109]⟩ : ByteArray), .int .i64 y_13.Alg, .int .i64 y_13.Bits, .int .i64 y_2.Alg, .int .i64 y_2.Bits, .int .i64 y_7.Alg, .int .i64 y_7.Bits, .int .i64 y_12.Alg, .int .i64 y_12.Bits, .int .i64 3, .int .i64 3, .int .i64 0, .str (⟨#[101, 99, 100, 104, 101, 45, 101, 99, 100, 115, 97, 45, 97, 101, 115, 50, 53, 54, 45, 103, 99, 109]⟩ : ByteArray), .int .i64 y_21.Alg, .int .i64 y_21.Bits, .int .i64 y_4.Alg, .int .i64 y_4.Bits, .int .i64 y_8.Alg, .int .i64 y_8.Bits, .int .i64 y_12.Alg, .int .i64 y_12.Bits, .int .i64 3, .int .i64 3, .int .i64 0, .str (⟨#[101, 99, 100, 104, 101, 45, 114, 115, 97, 45, 99, 104, 97, 99, 104, 97]⟩ : ByteArray), .int .i64 y_13.Alg, .int .i64 y_13.Bits, .int .i64 y_2.Alg, .int .i64 y_2.Bits, .int .i64 y_9.Alg, .int .i64 y_9.Bits, .int .i64 y_12.Alg, .int .i64 y_12.Bits, .int .i64 3, .int .i64 3, .int .i64 0, .str (⟨#[114, 115, 97, 45, 97, 101, 115, 50, 53, 54, 45, 103, 99, 109]⟩ : ByteArray), .int .i64 y.Alg, .int .i64 y.Bits, .int .i64 y_2.Alg, .int .i64 y_2.Bits, .int .i64 y_8.Alg, .int .i64 y_8.Bits, .int .i64 y_12.Alg, .int .i64 y_12.Bits, .int .i64 3, .int .i64 3, .int .i64 0, .str (⟨#[97, 101, 115, 49, 50, 56, 45, 103, 99, 109]⟩ : ByteArray), .int .i64 y_13.Alg, .int .i64 y_13.Bits, .int .i64 0, .int .i64 0, .int .i64 y_7.Alg, .int .i64 y_7.Bits, .int .i64 y_12.Alg, .int .i64 y_12.Bits, .int .i64 4, .int .i64 4, .int .i64 0, .str (⟨#[99, 104, 97, 99, 104, 97]⟩ : ByteArray), .int .i64 y_13.Alg, .int .i64 y_13.Bits, .int .i64 0, .int .i64 0, .int .i64 y_9.Alg, .int .i64 y_9.Bits, .int .i64 y_12.Alg, .int .i64 y_12.Bits, .int .i64 4, .int .i64 4, .int .i64 0, .str (⟨#[109, 108, 107, 101, 109, 45, 97, 101, 115, 50, 53, 54, 45, 103, 99, 109]⟩ : ByteArray), .int .i64 y_22.Alg, .int .i64 y_22.Bits, .int .i64 0, .int .i64 0, .int .i64 y_8.Alg, .int .i64 y_8.Bits, .int .i64 y_12.Alg, .int .i64 y_12.Bits, .int .i64 4, .int .i64 4]) (.cons .int (.cons .str (.cons .int (.cons .int (.cons .int (.cons .int (.cons .int (.cons .int (.cons .int (.cons .int (.cons .int (.cons .int (.cons .int (.cons .str (.cons .int (.cons .int (.cons .int (.cons .int (.cons .int (.cons .int (.cons .int (.cons .int (.cons .int (.cons .int (.cons .int (.cons .str (.cons .int (.cons .int (.cons .int (.cons .int (.cons .int (.cons .int (.cons .int (.cons .int (.cons .int (.cons .int (.cons .int (.cons .str (.cons .int (.cons .int (.cons .int (.cons .int (.cons .int (.cons .int (.cons .int (.cons .int (.cons .int (.cons .int (.cons .int (.cons .str (.cons .int (.cons .int (.cons .int (.cons .int (.cons .int (.cons .int (.cons .int (.cons .int (.cons .int (.cons .int (.cons .int (.cons .str (.cons .int (.cons .int (.cons .int (.cons .int (.cons .int (.cons .int (.cons .int (.cons .int (.cons .int (.cons .int (.cons .int (.cons .str (.cons .int (.cons .int (.cons .int (.cons .int (.cons .int (.cons .int (.cons .int (.cons .int (.cons .int (.cons .int (.cons .int (.cons .str (.cons .int (.cons .int (.cons .int (.cons .int (.cons .int (.cons .int (.cons .int (.cons .int (.cons .int (.cons .int (.cons .int (.cons .str (.cons .int (.cons .int (.cons .int (.cons .int (.cons .int (.cons .int (.cons .int (.cons .int (.cons .int (.cons .int (.cons .int (.cons .str (.cons .int (.cons .int (.cons .int (.cons .int (.cons .int (.cons .int (.cons .int (.cons .int (.cons .int (.cons .int (.cons .int (.cons .str (.cons .int (.cons .int (.cons .int (.cons .int (.cons .int (.cons .int (.cons .int (.cons .int (.cons .int (.cons .int (.cons .int (.cons .str (.cons .int (.cons .int (.cons .int (.cons .int (.cons .int (.cons .int (.cons .int (.cons .int (.cons .int (.cons .int (.cons .int (.cons .str (.cons .int (.cons .int (.cons .int (.cons .int (.cons .int (.cons .int (.cons .int (.cons .int (.cons .int (.cons .int (.cons .int (.cons .str (.cons .int (.cons .int (.cons .int (.cons .int (.cons .int (.cons .int (.cons .int (.cons .int (.cons .int (.cons .int (.cons .int (.cons .str (.cons .int (.cons .int (.cons .int (.cons .int (.cons .int (.cons .int (.cons .int (.cons .int (.cons .int (.cons .int (.cons .int (.cons .str (.cons .int (.cons .int (.cons .int (.cons .int (.cons .int (.cons .int (.cons .int (.cons .int (.cons .int (.cons .int .nil)))))))))))))))))))))))))))))))))))))))))))))))))))))))))))))))))))))))))))))))))))))))))))))))))))))))))))))))))))))))))))))))))))))))))))))))))))))))))))))))))))))))))))))))))))))))))))))))) rfl (l := ([(api_Suite.mk 0 (⟨#[114, 115, 97, 45, 114, 99, 52, 45, 109, 100, 53]⟩ : ByteArray) y y_2 y_14 y_10 1 2), (api_Suite.mk 0 (⟨#[114, 115, 97, 45, 114, 99, 52, 45, 115, 104, 97]⟩ : ByteArray) y y_2 y_15 y_11 1 3), (api_Suite.mk 0 (⟨#[114, 115, 97, 45, 100, 101, 115, 51, 45, 115, 104, 97]⟩ : ByteArray) y y_2 y_5 y_11 1 3), (api_Suite.mk 0 (⟨#[100, 104, 101, 45, 100, 115, 97, 45, 100, 101, 115, 51, 45, 115, 104, 97]⟩ : ByteArray) y_16 y_3 y_5 y_11 1 3), (api_Suite.mk 0 (⟨#[100, 104, 101, 45, 114, 115, 97, 45, 100, 101, 115, 51, 45, 115, 104, 97]⟩ : ByteArray) y_17 y_2 y_5 y_11 1 3), (api_Suite.mk 0 (⟨#[114, 115, 97, 45, 97, 101, 115, 49, 50, 56, 45, 115, 104, 97]⟩ : ByteArray) y y_2 y_6 y_11 1 3), (api_Suite.mk 0 (⟨#[100, 104, 101, 45, 114, 115, 97, 45, 97, 101, 115, 49, 50, 56, 45, 115, 104, 97]⟩ : ByteArray) y_18 y_2 y_6 y_11 1 3), (api_Suite.mk 0 (⟨#[101, 99, 100, 104, 101, 45, 114, 115, 97, 45, 97, 101, 115, 49, 50, 56, 45, 115, 104, 97]⟩ : ByteArray) y_13 y_2 y_6 y_11 1 3), (api_Suite.mk 0 (⟨#[101, 99, 100, 104, 101, 45, 101, 99, 100, 115, 97, 45, 97, 101, 115, 50, 53, 54, 45, 115, 104, 97, 50, 53, 54]⟩ : ByteArray) y_13 y_4 y_19 y_20 3 3), (api_Suite.mk 0 (⟨#[101, 99, 100, 104, 101, 45, 114, 115, 97, 45, 97, 101, 115, 49, 50, 56, 45, 103, 99, 109]⟩ : ByteArray) y_13 y_2 y_7 y_12 3 3), (api_Suite.mk 0 (⟨#[101, 99, 100, 104, 101, 45, 101, 99, 100, 115, 97, 45, 97, 101, 115, 50, 53, 54, 45, 103, 99, 109]⟩ : ByteArray) y_21 y_4 y_8 y_12 3 3), (api_Suite.mk 0 (⟨#[101, 99, 100, 104, 101, 45, 114, 115, 97, 45, 99, 104, 97, 99, 104, 97]⟩ : ByteArray) y_13 y_2 y_9 y_12 3 3), (api_Suite.mk 0 (⟨#[114, 115, 97, 45, 97, 101, 115, 50, 53, 54, 45, 103, 99, 109]⟩ : ByteArray) y y_2 y_8 y_12 3 3), (api_Suite.mk 0 (⟨#[97, 101, 115, 49, 50, 56, 45, 103, 99, 109]⟩ : ByteArray) y_13 (api_Use.mk 0 0) y_7 y_12 4 4), (api_Suite.mk 0 (⟨#[99, 104, 97, 99, 104, 97]⟩ : ByteArray) y_13 (api_Use.mk 0 0) y_9 y_12 4 4), (api_Suite.mk 0 (⟨#[109, 108, 107, 101, 109, 45, 97, 101, 115, 50, 53, 54, 45, 103, 99, 109]⟩ : ByteArray) y_22 (api_Use.mk 0 0) y_8 y_12 4 4)] : List api_Suite)) (f := api_Suite.enc) rfl) rfl rfl ?_
 refine go_ ?_
 refine ch_n fun hU => ?_
 refine awp_seq ?_
 refine sr_ 1000 1024 hU ?_
 refine go_ ?_
 refine ch_n fun hU => ?_
 refine awp_block ?_
 refine lp_ (fun ((x114_1, l_1) : Int × List api_Suite) => mk [(15, .row 0), (113, .val (.int .i64 (([(api_Suite.mk 0 (⟨#[114, 115, 97, 45, 114, 99, 52, 45, 109, 100, 53]⟩ : ByteArray) y y_2 y_14 y_10 1 2), (api_Suite.mk 0 (⟨#[114, 115, 97, 45, 114, 99, 52, 45, 115, 104, 97]⟩ : ByteArray) y y_2 y_15 y_11 1 3), (api_Suite.mk 0 (⟨#[114, 115, 97, 45, 100, 101, 115, 51, 45, 115, 104, 97]⟩ : ByteArray) y y_2 y_5 y_11 1 3), (api_Suite.mk 0 (⟨#[100, 104, 101, 45, 100, 115, 97, 45, 100, 101, 115, 51, 45, 115, 104, 97]⟩ : ByteArray) y_16 y_3 y_5 y_11 1 3), (api_Suite.mk 0 (⟨#[100, 104, 101, 45, 114, 115, 97, 45, 100, 101, 115, 51, 45, 115, 104, 97]⟩ : ByteArray) y_17 y_2 y_5 y_11 1 3), (api_Suite.mk 0 (⟨#[114, 115, 97, 45, 97, 101, 115, 49, 50, 56, 45, 115, 104, 97]⟩ : ByteArray) y y_2 y_6 y_11 1 3), (api_Suite.mk 0 (⟨#[100, 104, 101, 45, 114, 115, 97, 45, 97, 101, 115, 49, 50, 56, 45, 115, 104, 97]⟩ : ByteArray) y_18 y_2 y_6 y_11 1 3), (api_Suite.mk 0 (⟨#[101, 99, 100, 104, 101, 45, 114, 115, 97, 45, 97, 101, 115, 49, 50, 56, 45, 115, 104, 97]⟩ : ByteArray) y_13 y_2 y_6 y_11 1 3), (api_Suite.mk 0 (⟨#[101, 99, 100, 104, 101, 45, 101, 99, 100, 115, 97, 45, 97, 101, 115, 50, 53, 54, 45, 115, 104, 97, 50, 53, 54]⟩ : ByteArray) y_13 y_4 y_19 y_20 3 3), (api_Suite.mk 0 (⟨#[101, 99, 100, 104, 101, 45, 114, 115, 97, 45, 97, 101, 115, 49, 50, 56, 45, 103, 99, 109]⟩ : ByteArray) y_13 y_2 y_7 y_12 3 3), (api_Suite.mk 0 (⟨#[101, 99, 100, 104, 101, 45, 101, 99, 100, 115, 97, 45, 97, 101, 115, 50, 53, 54, 45, 103, 99, 109]⟩ : ByteArray) y_21 y_4 y_8 y_12 3 3), (api_Suite.mk 0 (⟨#[101, 99, 100, 104, 101, 45, 114, 115, 97, 45, 99, 104, 97, 99, 104, 97]⟩ : ByteArray) y_13 y_2 y_9 y_12 3 3), (api_Suite.mk 0 (⟨#[114, 115, 97, 45, 97, 101, 115, 50, 53, 54, 45, 103, 99, 109]⟩ : ByteArray) y y_2 y_8 y_12 3 3), (api_Suite.mk 0 (⟨#[97, 101, 115, 49, 50, 56, 45, 103, 99, 109]⟩ : ByteArray) y_13 (api_Use.mk 0 0) y_7 y_12 4 4), (api_Suite.mk 0 (⟨#[99, 104, 97, 99, 104, 97]⟩ : ByteArray) y_13 (api_Use.mk 0 0) y_9 y_12 4 4), (api_Suite.mk 0 (⟨#[109, 108, 107, 101, 109, 45, 97, 101, 115, 50, 53, 54, 45, 103, 99, 109]⟩ : ByteArray) y_22 (api_Use.mk 0 0) y_8 y_12 4 4)] : List api_Suite).length : Int))), (114, .val (.int .i64 x114_1))] [(0, .row 152 12 (encL api_Suite.enc l_1))] 1) hg (sub_ [(0, 984)]) ?_
 rintro ⟨x114_1, l_1⟩ m1 o1 hg hn1
 replace hg : g_catalog_Suites.l1 y y_2 y_3 y_4 y_5 y_6 y_7 y_8 y_9 y_10 y_11 y_12 y_13 y_14 y_15 y_16 y_17 y_18 y_19 y_20 y_21 y_22 x114_1 l_1 = some o1 := hg
 show awp _ _ _ _ (mk _ _ _)
 unfold g_catalog_Suites.l1 at hg
 refine sr_ 1 9 mk_U ?_
 refine go_ ?_
 refine ch_n fun hU => ?_
 refine awp_seq ?_
 refine cg_ rfl hg (fun h8 hg => ?_) fun h8 hg => ?_
 ·refine awp_skip ?_
  repeat first | refine st_ ?_ | refine sn_ ?_
  refine awp_seq ?_
  refine awp_block ?_
  refine sr_ 9 25 hU ?_
  refine go_ ?_
  refine ch_n fun hU => ?_
  refine awp_region (sys _ _ []) 25 81 hU rfl rfl ?_
  refine go_ ?_
  obtain ⟨e, he, hg⟩ := bind_some hg
  refine go_ ?_
  refine ch_s (rd := [0]) rfl rfl (r_storeR ty3 rfl (enc_cells_le api_Suite.enc_len (getI_at he) (o := 0) (m := 1) (by decide) rfl) ck3 (cs' := [.int .i64 (W (x114_1 + 1))]) (.cons .int .nil) (enc_splice api_Suite.enc_len (getI_at he) (o := 0) (x' := (api_Suite.mk (W (x114_1 + 1)) e.Name e.Exchange e.Sign e.Cipher e.Mac e.Least e.Most)) (Nat.le_of_ble_eq_true rfl) rfl rfl)) rfl rfl ?_
  refine ch_n fun hU => ?_
  refine awp_region (sys _ _ []) 81 97 hU rfl rfl ?_
  refine go_ ?_
  refine ch_n fun hU => ?_
  obtain rfl := Option.some.inj hg
  exact ⟨((W (x114_1 + 1), setI l_1 ((x114_1).toNat) (api_Suite.mk (W (x114_1 + 1)) e.Name e.Exchange e.Sign e.Cipher e.Mac e.Least e.Most)), m1), Nat.lt_succ_self _, hn1, sub_ [(0, 0)]⟩
 ·refine awp_exit ?_
  repeat first | refine st_ ?_ | refine sn_ ?_
  replace hg := leave hg hn1
  refine sr_ 9 25 hU ?_
  refine go_ ?_
  refine ch_n fun hU => ?_
  refine aw_r ?_
  obtain rfl := Option.some.inj hg
  exact fin_ [] ⟨rfl, rfl⟩
theorem w_catalog_Suite (code : Int) (r : api_Suite × Int) (hg : g_catalog_Suite code = some r) : Fn Tryz.prog 119 0 [.val (.int .i64 code)] [] (fun d' b' => d' = .tup [.agg (api_Suite.dv r.1), .val (.int .i64 r.2)] ∧ b' = []) := by
 unfold g_catalog_Suite at hg
 refine Fn.of Tryz.func119 rfl rfl rfl fun w0 I ρ0 => ?_
 show awp _ ⟨w0, I, ρ0, 0, 0, 20⟩ _ _ _
 refine sr_ 0 16 mk_U ?_
 refine go_ ?_
 refine ch_n fun hU => ?_
 refine sr_ 16 32 hU ?_
 obtain ⟨y, hy, hg⟩ := bind_some hg
 refine ca_ (w_catalog_Suites _ hy) ?_
 refine go_ ?_
 refine ch_n fun hU => ?_
 refine awp_seq ?_
 refine awp_cut (ι := Bool) (fun (x13_1 : Bool) => mk [(0, .val (.int .i64 code)), (2, .ptr 0 0), (4, .sl 12 (encL api_Suite.enc y)), (13, .val (.bool x13_1))] [(0, .box [.val (.int .i64 0), .val (.string (⟨#[]⟩ : ByteArray)), .val (.int .i64 0), .val (.int .i64 0), .val (.int .i64 0), .val (.int .i64 0), .val (.int .i64 0), .val (.int .i64 0), .val (.int .i64 0), .val (.int .i64 0), .val (.int .i64 0), .val (.int .i64 0)] 152)] 1) (fun (x13_1 : Bool) => g_catalog_Suite.j1 code y x13_1 = some r) ?_ ?_
 ·refine awp_region (sys _ _ []) 32 96 hU rfl rfl ?_
  refine go_ ?_
  rcases bc_ hg with ⟨h3, hg⟩ | ⟨h3, hg⟩
  ·refine go_ ?_
   refine ch_n fun hU => ?_
   exact ⟨true, hg, sub_ [(0, 0)]⟩
  ·refine go_ ?_
   refine ch_n fun hU => ?_
   exact ⟨decide ((y.length : Int) < code), hg, sub_ [(0, 0)]⟩
 ·rintro x13_1 hg
  replace hg : g_catalog_Suite.j1 code y x13_1 = some r := hg
  show awp _ _ _ _ (mk _ _ _)
  unfold g_catalog_Suite.j1 at hg
  refine cg_ rfl hg (fun h6 hg => ?_) fun h6 hg => ?_
  ·refine awp_seq ?_
   refine awp_region (sys _ _ []) 1 25 mk_U rfl rfl ?_
   refine c0_ rfl rfl (.build (r := [.val (.int .i64 0), .val (.string (⟨#[]⟩ : ByteArray)), .val (.int .i64 0), .val (.int .i64 0), .val (.int .i64 0), .val (.int .i64 0), .val (.int .i64 0), .val (.int .i64 0), .val (.int .i64 0), .val (.int .i64 0), .val (.int .i64 0), .val (.int .i64 0)]) und152 pl152 z152 (by kernel_rfl) rfl) rfl rfl ?_
   refine go_ ?_
   refine ch_n fun hU => ?_
   refine aw_r ?_
   obtain rfl := Option.some.inj hg
   exact fin_ [] ⟨rfl, rfl⟩
  ·refine awp_skip ?_
   repeat first | refine st_ ?_ | refine sn_ ?_
   refine sr_ 1 57 mk_U ?_
   refine go_ ?_
   obtain ⟨e, he, hg⟩ := bind_some hg
   refine go_ ?_
   refine c0_ rfl rfl (r_loadEA ty152 (enc_cells api_Suite.enc_len (getI_at he) (o := 0) (m := 12) (cs := [.int .i64 e.Code, .str e.Name, .int .i64 e.Exchange.Alg, .int .i64 e.Exchange.Bits, .int .i64 e.Sign.Alg, .int .i64 e.Sign.Bits, .int .i64 e.Cipher.Alg, .int .i64 e.Cipher.Bits, .int .i64 e.Mac.Alg, .int .i64 e.Mac.Bits, .int .i64 e.Least, .int .i64 e.Most]) rfl (by decide) rfl) (enc_cells_le api_Suite.enc_len (getI_at he) (o := 0) (m := 12) (by decide) rfl)) rfl rfl ?_
   refine go_ ?_
   refine ch_n fun hU => ?_
   refine aw_r ?_
   obtain rfl := Option.some.inj hg
   exact fin_ [] ⟨rfl, rfl⟩
theorem w_slices_Index_int (s : (List Int)) (v : Int) (r : Int) (hg : g_slices_Index_int s v = some r) : Fn Tryz.prog 146 0 [.sl 1 (encL eI s), .val (.int .i64 v)] [] (fun d' b' => d' = .val (.int .i64 r) ∧ b' = []) := by
 unfold g_slices_Index_int at hg
 refine Fn.of Tryz.func146 rfl rfl rfl fun w0 I ρ0 => ?_
 show awp _ ⟨w0, I, ρ0, 0, 0, 19⟩ _ _ _
 refine sr_ 0 8 mk_U ?_
 refine go_ ?_
 refine ch_n fun hU => ?_
 refine awp_seq ?_
 refine sr_ 8 32 hU ?_
 refine go_ ?_
 refine ch_n fun hU => ?_
 refine awp_block ?_
 refine lp_ (fun (x8_1 : Int) => mk [(0, .sl 1 (encL eI s)), (1, .val (.int .i64 v)), (7, .val (.int .i64 (s.length : Int))), (8, .val (.int .i64 x8_1))] [] 0) hg (sub_ []) ?_
 rintro x8_1 m1 o1 hg hn1
 replace hg : g_slices_Index_int.l1 s v x8_1 = some o1 := hg
 show awp _ _ _ _ (mk _ _ _)
 unfold g_slices_Index_int.l1 at hg
 refine sr_ 0 8 mk_U ?_
 refine go_ ?_
 refine ch_n fun hU => ?_
 refine awp_seq ?_
 refine cg_ rfl hg (fun h4 hg => ?_) fun h4 hg => ?_
 ·refine awp_skip ?_
  repeat first | refine st_ ?_ | refine sn_ ?_
  refine awp_seq ?_
  refine awp_block ?_
  refine sr_ 8 24 hU ?_
  refine go_ ?_
  refine ch_n fun hU => ?_
  refine sr_ 24 72 hU ?_
  refine go_ ?_
  obtain ⟨e, he, hg⟩ := bind_some hg
  refine go_ ?_
  refine c0_ rfl rfl (r_loadE1 ty3 (enc_cell eI_len (getI_at he) (o := 0) (c := .int .i64 e) rfl rfl)) rfl rfl ?_
  refine go_ ?_
  refine ch_n fun hU => ?_
  refine cg_ rfl hg (fun h7 hg => ?_) fun h7 hg => ?_
  ·refine awp_seq ?_
   refine awp_region (sys _ _ []) 72 88 hU rfl rfl ?_
   refine go_ ?_
   refine ch_n fun hU => ?_
   refine aw_r ?_
   replace hg := leave hg hn1
   obtain rfl := Option.some.inj hg
   exact fin_ [] ⟨rfl, rfl⟩
  ·refine awp_skip ?_
   repeat first | refine st_ ?_ | refine sn_ ?_
   refine awp_region (sys _ _ []) 72 88 hU rfl rfl ?_
   refine go_ ?_
   refine ch_n fun hU => ?_
   obtain rfl := Option.some.inj hg
   exact ⟨(W (x8_1 + 1), m1), Nat.lt_succ_self _, hn1, sub_ []⟩
 ·refine awp_exit ?_
  repeat first | refine st_ ?_ | refine sn_ ?_
  replace hg := leave hg hn1
  refine sr_ 8 16 hU ?_
  refine go_ ?_
  refine ch_n fun hU => ?_
  refine aw_r ?_
  obtain rfl := Option.some.inj hg
  exact fin_ [] ⟨rfl, rfl⟩
theorem w_slices_Contains_int (s : (List Int)) (v : Int) (r : Bool) (hg : g_slices_Contains_int s v = some r) : Fn Tryz.prog 120 0 [.sl 1 (encL eI s), .val (.int .i64 v)] [] (fun d' b' => d' = .val (.bool r) ∧ b' = []) := by
 unfold g_slices_Contains_int at hg
 refine Fn.of Tryz.func120 rfl rfl rfl fun w0 I ρ0 => ?_
 show awp _ ⟨w0, I, ρ0, 0, 0, 9⟩ _ _ _
 refine sr_ 0 8 mk_U ?_
 refine go_ ?_
 refine ch_n fun hU => ?_
 refine sr_ 8 48 hU ?_
 refine go_ ?_
 obtain ⟨y, hy, hg⟩ := bind_some hg
 refine ca_ (w_slices_Index_int _ _ _ hy) ?_
 refine go_ ?_
 refine ch_n fun hU => ?_
 refine aw_r ?_
 obtain rfl := Option.some.inj hg
 exact fin_ [] ⟨rfl, rfl⟩
theorem w_endpoint_suites (l : (List Int)) (r : Bool) (hg : g_endpoint_suites l = some r) : Fn Tryz.prog 86 0 [.sl 1 (encL eI l)] [] (fun d' b' => d' = .val (.bool r) ∧ b' = []) := by
 unfold g_endpoint_suites at hg
 refine Fn.of Tryz.func86 rfl rfl rfl fun w0 I ρ0 => ?_
 show awp _ ⟨w0, I, ρ0, 0, 0, 29⟩ _ _ _
 refine sr_ 0 8 mk_U ?_
 refine go_ ?_
 refine ch_n fun hU => ?_
 refine awp_seq ?_
 refine sr_ 8 32 hU ?_
 refine go_ ?_
 refine ch_n fun hU => ?_
 refine awp_block ?_
 refine lp_ (fun (x9_1 : Int) => mk [(0, .sl 1 (encL eI l)), (7, .sl 1 (encL eI l)), (8, .val (.int .i64 (l.length : Int))), (9, .val (.int .i64 x9_1))] [] 0) hg (sub_ []) ?_
 rintro x9_1 m1 o1 hg hn1
 replace hg : g_endpoint_suites.l1 l x9_1 = some o1 := hg
 show awp _ _ _ _ (mk _ _ _)
 unfold g_endpoint_suites.l1 at hg
 refine sr_ 0 8 mk_U ?_
 refine go_ ?_
 refine ch_n fun hU => ?_
 refine awp_seq ?_
 refine cg_ rfl hg (fun h4 hg => ?_) fun h4 hg => ?_
 ·refine awp_skip ?_
  repeat first | refine st_ ?_ | refine sn_ ?_
  refine awp_seq ?_
  refine awp_block ?_
  refine sr_ 8 48 hU ?_
  refine go_ ?_
  obtain ⟨e, he, hg⟩ := bind_some hg
  refine go_ ?_
  refine c0_ rfl rfl (r_loadE1 ty3 (enc_cell eI_len (getI_at he) (o := 0) (c := .int .i64 e) rfl rfl)) rfl rfl ?_
  refine go_ ?_
  refine ch_n fun hU => ?_
  refine sr_ 48 112 hU ?_
  refine go_ ?_
  obtain ⟨y, hy, hg⟩ := bind_some hg
  refine ca_ (w_catalog_Suite _ _ hy) ?_
  refine go_ ?_
  refine ch_n fun hU => ?_
  refine awp_cut (ι := Bool) (fun (x27_2 : Bool) => mk [(0, .sl 1 (encL eI l)), (7, .sl 1 (encL eI l)), (8, .val (.int .i64 (l.length : Int))), (9, .val (.int .i64 x9_1)), (27, .val (.bool x27_2))] [] 0) (fun (x27_2 : Bool) => g_endpoint_suites.j2 x9_1 x27_2 = some o1) ?_ ?_
  ·refine awp_region (sys _ _ []) 112 184 hU rfl rfl ?_
   refine go_ ?_
   rcases bc_ hg with ⟨h7, hg⟩ | ⟨h7, hg⟩
   ·refine go_ ?_
    refine ch_n fun hU => ?_
    exact ⟨true, hg, sub_ []⟩
   ·refine go_ ?_
    obtain ⟨l_2, hl_2, hg⟩ := bind_some hg
    refine c0_ (gdv_t rfl rfl h7) rfl (r_sliS_hi sl22 eI_len hl_2) rfl rfl ?_
    refine go_ ?_
    obtain ⟨y_2, hy_2, hg⟩ := bind_some hg
    refine ca_ (w_slices_Contains_int _ _ _ hy_2) ?_
    refine go_ ?_
    refine ch_n fun hU => ?_
    exact ⟨y_2, hg, sub_ []⟩
  ·rintro x27_2 hg
   replace hg : g_endpoint_suites.j2 x9_1 x27_2 = some o1 := hg
   show awp _ _ _ _ (mk _ _ _)
   unfold g_endpoint_suites.j2 at hg
   refine cg_ rfl hg (fun h10 hg => ?_) fun h10 hg => ?_
   ·refine awp_seq ?_
    refine awp_region (sys _ _ []) 0 8 mk_U rfl rfl ?_
    refine go_ ?_
    refine ch_n fun hU => ?_
    refine aw_r ?_
    replace hg := leave hg hn1
    obtain rfl := Option.some.inj hg
    exact fin_ [] ⟨rfl, rfl⟩
   ·refine awp_skip ?_
    repeat first | refine st_ ?_ | refine sn_ ?_
    refine awp_region (sys _ _ []) 0 16 mk_U rfl rfl ?_
    refine go_ ?_
    refine ch_n fun hU => ?_
    obtain rfl := Option.some.inj hg
    exact ⟨(W (x9_1 + 1), m1), Nat.lt_succ_self _, hn1, sub_ []⟩
 ·refine awp_exit ?_
  repeat first | refine st_ ?_ | refine sn_ ?_
  replace hg := leave hg hn1
  refine sr_ 8 16 hU ?_
  refine go_ ?_
  refine ch_n fun hU => ?_
  refine aw_r ?_
  obtain rfl := Option.some.inj hg
  exact fin_ [] ⟨rfl, rfl⟩
theorem w_endpoint_ascends (l : (List Int)) (r : Bool) (hg : g_endpoint_ascends l = some r) : Fn Tryz.prog 87 0 [.sl 1 (encL eI l)] [] (fun d' b' => d' = .val (.bool r) ∧ b' = []) := by
 unfold g_endpoint_ascends at hg
 refine Fn.of Tryz.func87 rfl rfl rfl fun w0 I ρ0 => ?_
 show awp _ ⟨w0, I, ρ0, 0, 0, 24⟩ _ _ _
 refine sr_ 0 8 mk_U ?_
 refine go_ ?_
 refine ch_n fun hU => ?_
 refine awp_seq ?_
 refine sr_ 8 32 hU ?_
 refine go_ ?_
 refine ch_n fun hU => ?_
 refine awp_block ?_
 refine lp_ (fun (x6_1 : Int) => mk [(0, .sl 1 (encL eI l)), (5, .val (.int .i64 (l.length : Int))), (6, .val (.int .i64 x6_1))] [] 0) hg (sub_ []) ?_
 rintro x6_1 m1 o1 hg hn1
 replace hg : g_endpoint_ascends.l1 l x6_1 = some o1 := hg
 show awp _ _ _ _ (mk _ _ _)
 unfold g_endpoint_ascends.l1 at hg
 refine sr_ 0 8 mk_U ?_
 refine go_ ?_
 refine ch_n fun hU => ?_
 refine awp_seq ?_
 refine cg_ rfl hg (fun h4 hg => ?_) fun h4 hg => ?_
 ·refine awp_skip ?_
  repeat first | refine st_ ?_ | refine sn_ ?_
  refine awp_seq ?_
  refine awp_block ?_
  refine sr_ 8 24 hU ?_
  refine go_ ?_
  refine ch_n fun hU => ?_
  refine awp_cut (ι := Bool) (fun (x22_2 : Bool) => mk [(0, .sl 1 (encL eI l)), (5, .val (.int .i64 (l.length : Int))), (6, .val (.int .i64 x6_1)), (22, .val (.bool x22_2))] [] 0) (fun (x22_2 : Bool) => g_endpoint_ascends.j2 x6_1 x22_2 = some o1) ?_ ?_
  ·refine awp_draw (sys _ _ []) (by kernel_rfl) [0, 1, 3, 7, 7, 23, 63, 127, 7, 7, 775, 1799, 4095, 8191] 24 136 hU rfl rfl (by kernel_rfl) ?_
   refine go_ ?_
   rcases bc_ hg with ⟨h6, hg⟩ | ⟨h6, hg⟩
   ·refine go_ ?_
    obtain ⟨e, he, hg⟩ := bind_some hg
    refine go_ ?_
    refine c0_ (gdv_t rfl rfl h6) rfl (r_loadE1 ty3 (enc_cell eI_len (getI_at he) (o := 0) (c := .int .i64 e) rfl rfl)) rfl rfl ?_
    refine go_ ?_
    obtain ⟨e_2, he_2, hg⟩ := bind_some hg
    refine go_ ?_
    refine c0_ (gdv_t rfl rfl h6) rfl (r_loadE1 ty3 (enc_cell eI_len (getI_at he_2) (o := 0) (c := .int .i64 e_2) rfl rfl)) rfl rfl ?_
    refine go_ ?_
    refine ch_n fun hU => ?_
    exact ⟨decide (e_2 ≤ e), hg, sub_ []⟩
   ·refine go_ ?_
    refine ch_n fun hU => ?_
    exact ⟨false, hg, sub_ []⟩
  ·rintro x22_2 hg
   replace hg : g_endpoint_ascends.j2 x6_1 x22_2 = some o1 := hg
   show awp _ _ _ _ (mk _ _ _)
   unfold g_endpoint_ascends.j2 at hg
   refine cg_ rfl hg (fun h9 hg => ?_) fun h9 hg => ?_
   ·refine awp_seq ?_
    refine awp_region (sys _ _ []) 0 8 mk_U rfl rfl ?_
    refine go_ ?_
    refine ch_n fun hU => ?_
    refine aw_r ?_
    replace hg := leave hg hn1
    obtain rfl := Option.some.inj hg
    exact fin_ [] ⟨rfl, rfl⟩
   ·refine awp_skip ?_
    repeat first | refine st_ ?_ | refine sn_ ?_
    refine awp_region (sys _ _ []) 0 16 mk_U rfl rfl ?_
    refine go_ ?_
    refine ch_n fun hU => ?_
    obtain rfl := Option.some.inj hg
    exact ⟨(W (x6_1 + 1), m1), Nat.lt_succ_self _, hn1, sub_ []⟩
 ·refine awp_exit ?_
  repeat first | refine st_ ?_ | refine sn_ ?_
  replace hg := leave hg hn1
  refine sr_ 8 16 hU ?_
  refine go_ ?_
  refine ch_n fun hU => ?_
  refine aw_r ?_
  obtain rfl := Option.some.inj hg
  exact fin_ [] ⟨rfl, rfl⟩
theorem w_catalog_rows  (r : (List catalog_row)) (hg : g_catalog_rows = some r) : Fn Tryz.prog 159 0 [] [] (fun d' b' => d' = .agg [.val (.string ((r[0]!).name)), .val (.int .i64 ((r[0]!).kind)), .val (.int .i64 ((r[0]!).way)), .sl 1 (encL eI ((r[0]!).sizes)), .sl 1 (encL eI ((r[0]!).strengths)), .val (.string ((r[1]!).name)), .val (.int .i64 ((r[1]!).kind)), .val (.int .i64 ((r[1]!).way)), .sl 1 (encL eI ((r[1]!).sizes)), .sl 1 (encL eI ((r[1]!).strengths)), .val (.string ((r[2]!).name)), .val (.int .i64 ((r[2]!).kind)), .val (.int .i64 ((r[2]!).way)), .sl 1 (encL eI ((r[2]!).sizes)), .sl 1 (encL eI ((r[2]!).strengths)), .val (.string ((r[3]!).name)), .val (.int .i64 ((r[3]!).kind)), .val (.int .i64 ((r[3]!).way)), .sl 1 (encL eI ((r[3]!).sizes)), .sl 1 (encL eI ((r[3]!).strengths)), .val (.string ((r[4]!).name)), .val (.int .i64 ((r[4]!).kind)), .val (.int .i64 ((r[4]!).way)), .sl 1 (encL eI ((r[4]!).sizes)), .sl 1 (encL eI ((r[4]!).strengths)), .val (.string ((r[5]!).name)), .val (.int .i64 ((r[5]!).kind)), .val (.int .i64 ((r[5]!).way)), .sl 1 (encL eI ((r[5]!).sizes)), .sl 1 (encL eI ((r[5]!).strengths)), .val (.string ((r[6]!).name)), .val (.int .i64 ((r[6]!).kind)), .val (.int .i64 ((r[6]!).way)), .sl 1 (encL eI ((r[6]!).sizes)), .sl 1 (encL eI ((r[6]!).strengths)), .val (.string ((r[7]!).name)), .val (.int .i64 ((r[7]!).kind)), .val (.int .i64 ((r[7]!).way)), .sl 1 (encL eI ((r[7]!).sizes)), .sl 1 (encL eI ((r[7]!).strengths)), .val (.string ((r[8]!).name)), .val (.int .i64 ((r[8]!).kind)), .val (.int .i64 ((r[8]!).way)), .sl 1 (encL eI ((r[8]!).sizes)), .sl 1 (encL eI ((r[8]!).strengths)), .val (.string ((r[9]!).name)), .val (.int .i64 ((r[9]!).kind)), .val (.int .i64 ((r[9]!).way)), .sl 1 (encL eI ((r[9]!).sizes)), .sl 1 (encL eI ((r[9]!).strengths)), .val (.string ((r[10]!).name)), .val (.int .i64 ((r[10]!).kind)), .val (.int .i64 ((r[10]!).way)), .sl 1 (encL eI ((r[10]!).sizes)), .sl 1 (encL eI ((r[10]!).strengths)), .val (.string ((r[11]!).name)), .val (.int .i64 ((r[11]!).kind)), .val (.int .i64 ((r[11]!).way)), .sl 1 (encL eI ((r[11]!).sizes)), .sl 1 (encL eI ((r[11]!).strengths)), .val (.string ((r[12]!).name)), .val (.int .i64 ((r[12]!).kind)), .val (.int .i64 ((r[12]!).way)), .sl 1 (encL eI ((r[12]!).sizes)), .sl 1 (encL eI ((r[12]!).strengths)), .val (.string ((r[13]!).name)), .val (.int .i64 ((r[13]!).kind)), .val (.int .i64 ((r[13]!).way)), .sl 1 (encL eI ((r[13]!).sizes)), .sl 1 (encL eI ((r[13]!).strengths)), .val (.string ((r[14]!).name)), .val (.int .i64 ((r[14]!).kind)), .val (.int .i64 ((r[14]!).way)), .sl 1 (encL eI ((r[14]!).sizes)), .sl 1 (encL eI ((r[14]!).strengths)), .val (.string ((r[15]!).name)), .val (.int .i64 ((r[15]!).kind)), .val (.int .i64 ((r[15]!).way)), .sl 1 (encL eI ((r[15]!).sizes)), .sl 1 (encL eI ((r[15]!).strengths)), .val (.string ((r[16]!).name)), .val (.int .i64 ((r[16]!).kind)), .val (.int .i64 ((r[16]!).way)), .sl 1 (encL eI ((r[16]!).sizes)), .sl 1 (encL eI ((r[16]!).strengths)), .val (.string ((r[17]!).name)), .val (.int .i64 ((r[17]!).kind)), .val (.int .i64 ((r[17]!).way)), .sl 1 (encL eI ((r[17]!).sizes)), .sl 1 (encL eI ((r[17]!).strengths)), .val (.string ((r[18]!).name)), .val (.int .i64 ((r[18]!).kind)), .val (.int .i64 ((r[18]!).way)), .sl 1 (encL eI ((r[18]!).sizes)), .sl 1 (encL eI ((r[18]!).strengths)), .val (.string ((r[19]!).name)), .val (.int .i64 ((r[19]!).kind)), .val (.int .i64 ((r[19]!).way)), .sl 1 (encL eI ((r[19]!).sizes)), .sl 1 (encL eI ((r[19]!).strengths)), .val (.string ((r[20]!).name)), .val (.int .i64 ((r[20]!).kind)), .val (.int .i64 ((r[20]!).way)), .sl 1 (encL eI ((r[20]!).sizes)), .sl 1 (encL eI ((r[20]!).strengths)), .val (.string ((r[21]!).name)), .val (.int .i64 ((r[21]!).kind)), .val (.int .i64 ((r[21]!).way)), .sl 1 (encL eI ((r[21]!).sizes)), .sl 1 (encL eI ((r[21]!).strengths)), .val (.string ((r[22]!).name)), .val (.int .i64 ((r[22]!).kind)), .val (.int .i64 ((r[22]!).way)), .sl 1 (encL eI ((r[22]!).sizes)), .sl 1 (encL eI ((r[22]!).strengths))] ∧ b' = []) := by
 unfold g_catalog_rows at hg
 refine Fn.of Tryz.func159 rfl rfl rfl fun w0 I ρ0 => ?_
 show awp _ ⟨w0, I, ρ0, 0, 0, 46⟩ _ _ _
 refine sr_ 0 8 mk_U ?_
 refine go_ ?_
 refine ch_n fun hU => ?_
 refine sr_ 8 376 hU ?_
 refine c0_ rfl rfl (r_buildFull sl22 z3 (by decide) rfl rfl rfl rfl ck3 (cs := [.int .i64 18]) (.cons .int .nil) rfl (l := ([18] : List Int)) (f := eI) rfl) rfl rfl ?_
 refine c0_ rfl rfl (.build (r := [.val (.string (⟨#[109, 100, 53]⟩ : ByteArray)), .val (.int .i64 1), .val (.int .i64 0), .val (.slice none 0 0), .row 8]) und189 pl189 z189 (by kernel_rfl) rfl) rfl rfl ?_
 refine c0_ rfl rfl (r_buildFull sl22 z3 (by decide) rfl rfl rfl rfl ck3 (cs := [.int .i64 60]) (.cons .int .nil) rfl (l := ([60] : List Int)) (f := eI) rfl) rfl rfl ?_
 refine c0_ rfl rfl (.build (r := [.val (.string (⟨#[115, 104, 97, 49]⟩ : ByteArray)), .val (.int .i64 1), .val (.int .i64 0), .val (.slice none 0 0), .row 24]) und189 pl189 z189 (by kernel_rfl) rfl) rfl rfl ?_
 refine c0_ rfl rfl (r_buildFull sl22 z3 (by decide) rfl rfl rfl rfl ck3 (cs := [.int .i64 128]) (.cons .int .nil) rfl (l := ([128] : List Int)) (f := eI) rfl) rfl rfl ?_
 refine c0_ rfl rfl (.build (r := [.val (.string (⟨#[115, 104, 97, 50, 53, 54]⟩ : ByteArray)), .val (.int .i64 1), .val (.int .i64 0), .val (.slice none 0 0), .row 40]) und189 pl189 z189 (by kernel_rfl) rfl) rfl rfl ?_
 refine c0_ rfl rfl (r_buildFull sl22 z3 (by decide) rfl rfl rfl rfl ck3 (cs := [.int .i64 192]) (.cons .int .nil) rfl (l := ([192] : List Int)) (f := eI) rfl) rfl rfl ?_
 refine c0_ rfl rfl (.build (r := [.val (.string (⟨#[115, 104, 97, 51, 56, 52]⟩ : ByteArray)), .val (.int .i64 1), .val (.int .i64 0), .val (.slice none 0 0), .row 56]) und189 pl189 z189 (by kernel_rfl) rfl) rfl rfl ?_
 refine c0_ rfl rfl (.build (r := [.val (.string (⟨#[114, 115, 97]⟩ : ByteArray)), .val (.int .i64 2), .val (.int .i64 1), .val (.slice none 0 0), .val (.slice none 0 0)]) und189 pl189 z189 (by kernel_rfl) rfl) rfl rfl ?_
 refine c0_ rfl rfl (.build (r := [.val (.string (⟨#[100, 115, 97]⟩ : ByteArray)), .val (.int .i64 2), .val (.int .i64 1), .val (.slice none 0 0), .val (.slice none 0 0)]) und189 pl189 z189 (by kernel_rfl) rfl) rfl rfl ?_
 refine c0_ rfl rfl (.build (r := [.val (.string (⟨#[101, 99, 100, 115, 97]⟩ : ByteArray)), .val (.int .i64 2), .val (.int .i64 2), .val (.slice none 0 0), .val (.slice none 0 0)]) und189 pl189 z189 (by kernel_rfl) rfl) rfl rfl ?_
 refine c0_ rfl rfl (r_buildFull sl22 z3 (by decide) rfl rfl rfl rfl ck3 (cs := [.int .i64 128]) (.cons .int .nil) rfl (l := ([128] : List Int)) (f := eI) rfl) rfl rfl ?_
 refine c0_ rfl rfl (.build (r := [.val (.string (⟨#[101, 100, 50, 53, 53, 49, 57]⟩ : ByteArray)), .val (.int .i64 2), .val (.int .i64 0), .val (.slice none 0 0), .row 96]) und189 pl189 z189 (by kernel_rfl) rfl) rfl rfl ?_
 refine c0_ rfl rfl (r_buildFull sl22 z3 (by decide) rfl rfl rfl rfl ck3 (cs := [.int .i64 44, .int .i64 65, .int .i64 87]) (.cons .int (.cons .int (.cons .int .nil))) rfl (l := ([44, 65, 87] : List Int)) (f := eI) rfl) rfl rfl ?_
 refine c0_ rfl rfl (r_buildFull sl22 z3 (by decide) rfl rfl rfl rfl ck3 (cs := [.int .i64 128, .int .i64 192, .int .i64 256]) (.cons .int (.cons .int (.cons .int .nil))) rfl (l := ([128, 192, 256] : List Int)) (f := eI) rfl) rfl rfl ?_
 refine c0_ rfl rfl (.build (r := [.val (.string (⟨#[109, 108, 100, 115, 97]⟩ : ByteArray)), .val (.int .i64 2), .val (.int .i64 3), .row 112, .row 120]) und189 pl189 z189 (by kernel_rfl) rfl) rfl rfl ?_
 refine c0_ rfl rfl (.build (r := [.val (.string (⟨#[114, 115, 97, 107, 120]⟩ : ByteArray)), .val (.int .i64 3), .val (.int .i64 1), .val (.slice none 0 0), .val (.slice none 0 0)]) und189 pl189 z189 (by kernel_rfl) rfl) rfl rfl ?_
 refine c0_ rfl rfl (.build (r := [.val (.string (⟨#[100, 104, 101]⟩ : ByteArray)), .val (.int .i64 3), .val (.int .i64 1), .val (.slice none 0 0), .val (.slice none 0 0)]) und189 pl189 z189 (by kernel_rfl) rfl) rfl rfl ?_
 refine c0_ rfl rfl (.build (r := [.val (.string (⟨#[101, 99, 100, 104, 101]⟩ : ByteArray)), .val (.int .i64 3), .val (.int .i64 2), .val (.slice none 0 0), .val (.slice none 0 0)]) und189 pl189 z189 (by kernel_rfl) rfl) rfl rfl ?_
 refine c0_ rfl rfl (r_buildFull sl22 z3 (by decide) rfl rfl rfl rfl ck3 (cs := [.int .i64 512, .int .i64 768, .int .i64 1024]) (.cons .int (.cons .int (.cons .int .nil))) rfl (l := ([512, 768, 1024] : List Int)) (f := eI) rfl) rfl rfl ?_
 refine c0_ rfl rfl (r_buildFull sl22 z3 (by decide) rfl rfl rfl rfl ck3 (cs := [.int .i64 128, .int .i64 192, .int .i64 256]) (.cons .int (.cons .int (.cons .int .nil))) rfl (l := ([128, 192, 256] : List Int)) (f := eI) rfl) rfl rfl ?_
 refine c0_ rfl rfl (.build (r := [.val (.string (⟨#[109, 108, 107, 101, 109]⟩ : ByteArray)), .val (.int .i64 3), .val (.int .i64 3), .row 160, .row 168]) und189 pl189 z189 (by kernel_rfl) rfl) rfl rfl ?_
 refine c0_ rfl rfl (r_buildFull sl22 z3 (by decide) rfl rfl rfl rfl ck3 (cs := [.int .i64 40, .int .i64 128]) (.cons .int (.cons .int .nil)) rfl (l := ([40, 128] : List Int)) (f := eI) rfl) rfl rfl ?_
 refine c0_ rfl rfl (r_buildFull sl22 z3 (by decide) rfl rfl rfl rfl ck3 (cs := [.int .i64 40, .int .i64 60]) (.cons .int (.cons .int .nil)) rfl (l := ([40, 60] : List Int)) (f := eI) rfl) rfl rfl ?_
 refine c0_ rfl rfl (.build (r := [.val (.string (⟨#[114, 99, 52]⟩ : ByteArray)), .val (.int .i64 4), .val (.int .i64 3), .row 184, .row 192]) und189 pl189 z189 (by kernel_rfl) rfl) rfl rfl ?_
 refine c0_ rfl rfl (r_buildFull sl22 z3 (by decide) rfl rfl rfl rfl ck3 (cs := [.int .i64 112, .int .i64 168]) (.cons .int (.cons .int .nil)) rfl (l := ([112, 168] : List Int)) (f := eI) rfl) rfl rfl ?_
 refine c0_ rfl rfl (r_buildFull sl22 z3 (by decide) rfl rfl rfl rfl ck3 (cs := [.int .i64 80, .int .i64 112]) (.cons .int (.cons .int .nil)) rfl (l := ([80, 112] : List Int)) (f := eI) rfl) rfl rfl ?_
 refine c0_ rfl rfl (.build (r := [.val (.string (⟨#[100, 101, 115, 51]⟩ : ByteArray)), .val (.int .i64 4), .val (.int .i64 3), .row 208, .row 216]) und189 pl189 z189 (by kernel_rfl) rfl) rfl rfl ?_
 refine c0_ rfl rfl (r_buildFull sl22 z3 (by decide) rfl rfl rfl rfl ck3 (cs := [.int .i64 128, .int .i64 256]) (.cons .int (.cons .int .nil)) rfl (l := ([128, 256] : List Int)) (f := eI) rfl) rfl rfl ?_
 refine c0_ rfl rfl (r_buildFull sl22 z3 (by decide) rfl rfl rfl rfl ck3 (cs := [.int .i64 128, .int .i64 256]) (.cons .int (.cons .int .nil)) rfl (l := ([128, 256] : List Int)) (f := eI) rfl) rfl rfl ?_
 refine c0_ rfl rfl (.build (r := [.val (.string (⟨#[97, 101, 115, 99, 98, 99]⟩ : ByteArray)), .val (.int .i64 4), .val (.int .i64 3), .row 232, .row 240]) und189 pl189 z189 (by kernel_rfl) rfl) rfl rfl ?_
 refine c0_ rfl rfl (r_buildFull sl22 z3 (by decide) rfl rfl rfl rfl ck3 (cs := [.int .i64 128, .int .i64 256]) (.cons .int (.cons .int .nil)) rfl (l := ([128, 256] : List Int)) (f := eI) rfl) rfl rfl ?_
 refine c0_ rfl rfl (r_buildFull sl22 z3 (by decide) rfl rfl rfl rfl ck3 (cs := [.int .i64 128, .int .i64 256]) (.cons .int (.cons .int .nil)) rfl (l := ([128, 256] : List Int)) (f := eI) rfl) rfl rfl ?_
 refine c0_ rfl rfl (.build (r := [.val (.string (⟨#[97, 101, 115, 103, 99, 109]⟩ : ByteArray)), .val (.int .i64 4), .val (.int .i64 3), .row 256, .row 264]) und189 pl189 z189 (by kernel_rfl) rfl) rfl rfl ?_
 refine c0_ rfl rfl (r_buildFull sl22 z3 (by decide) rfl rfl rfl rfl ck3 (cs := [.int .i64 256]) (.cons .int .nil) rfl (l := ([256] : List Int)) (f := eI) rfl) rfl rfl ?_
 refine c0_ rfl rfl (.build (r := [.val (.string (⟨#[99, 104, 97, 99, 104, 97]⟩ : ByteArray)), .val (.int .i64 4), .val (.int .i64 0), .val (.slice none 0 0), .row 280]) und189 pl189 z189 (by kernel_rfl) rfl) rfl rfl ?_
 refine c0_ rfl rfl (r_buildFull sl22 z3 (by decide) rfl rfl rfl rfl ck3 (cs := [.int .i64 64]) (.cons .int .nil) rfl (l := ([64] : List Int)) (f := eI) rfl) rfl rfl ?_
 refine c0_ rfl rfl (.build (r := [.val (.string (⟨#[104, 109, 97, 99, 109, 100, 53]⟩ : ByteArray)), .val (.int .i64 5), .val (.int .i64 0), .val (.slice none 0 0), .row 296]) und189 pl189 z189 (by kernel_rfl) rfl) rfl rfl ?_
 refine c0_ rfl rfl (r_buildFull sl22 z3 (by decide) rfl rfl rfl rfl ck3 (cs := [.int .i64 80]) (.cons .int .nil) rfl (l := ([80] : List Int)) (f := eI) rfl) rfl rfl ?_
 refine c0_ rfl rfl (.build (r := [.val (.string (⟨#[104, 109, 97, 99, 115, 104, 97, 49]⟩ : ByteArray)), .val (.int .i64 5), .val (.int .i64 0), .val (.slice none 0 0), .row 312]) und189 pl189 z189 (by kernel_rfl) rfl) rfl rfl ?_
 refine c0_ rfl rfl (r_buildFull sl22 z3 (by decide) rfl rfl rfl rfl ck3 (cs := [.int .i64 128]) (.cons .int .nil) rfl (l := ([128] : List Int)) (f := eI) rfl) rfl rfl ?_
 refine c0_ rfl rfl (.build (r := [.val (.string (⟨#[104, 109, 97, 99, 115, 104, 97, 50, 53, 54]⟩ : ByteArray)), .val (.int .i64 5), .val (.int .i64 0), .val (.slice none 0 0), .row 328]) und189 pl189 z189 (by kernel_rfl) rfl) rfl rfl ?_
 refine c0_ rfl rfl (r_buildFull sl22 z3 (by decide) rfl rfl rfl rfl ck3 (cs := [.int .i64 256]) (.cons .int .nil) rfl (l := ([256] : List Int)) (f := eI) rfl) rfl rfl ?_
 refine c0_ rfl rfl (.build (r := [.val (.string (⟨#[97, 101, 97, 100]⟩ : ByteArray)), .val (.int .i64 5), .val (.int .i64 0), .val (.slice none 0 0), .row 344]) und189 pl189 z189 (by kernel_rfl) rfl) rfl rfl ?_
 refine c0_ rfl rfl (.buildArr (sz := 5) (r := [.val (.string (⟨#[]⟩ : ByteArray)), .val (.int .i64 0), .val (.int .i64 0), .val (.slice none 0 0), .val (.slice none 0 0), .val (.string (⟨#[109, 100, 53]⟩ : ByteArray)), .val (.int .i64 1), .val (.int .i64 0), .val (.slice none 0 0), .row 8, .val (.string (⟨#[115, 104, 97, 49]⟩ : ByteArray)), .val (.int .i64 1), .val (.int .i64 0), .val (.slice none 0 0), .row 24, .val (.string (⟨#[115, 104, 97, 50, 53, 54]⟩ : ByteArray)), .val (.int .i64 1), .val (.int .i64 0), .val (.slice none 0 0), .row 40, .val (.string (⟨#[115, 104, 97, 51, 56, 52]⟩ : ByteArray)), .val (.int .i64 1), .val (.int .i64 0), .val (.slice none 0 0), .row 56, .val (.string (⟨#[114, 115, 97]⟩ : ByteArray)), .val (.int .i64 2), .val (.int .i64 1), .val (.slice none 0 0), .val (.slice none 0 0), .val (.string (⟨#[100, 115, 97]⟩ : ByteArray)), .val (.int .i64 2), .val (.int .i64 1), .val (.slice none 0 0), .val (.slice none 0 0), .val (.string (⟨#[101, 99, 100, 115, 97]⟩ : ByteArray)), .val (.int .i64 2), .val (.int .i64 2), .val (.slice none 0 0), .val (.slice none 0 0), .val (.string (⟨#[101, 100, 50, 53, 53, 49, 57]⟩ : ByteArray)), .val (.int .i64 2), .val (.int .i64 0), .val (.slice none 0 0), .row 96, .val (.string (⟨#[109, 108, 100, 115, 97]⟩ : ByteArray)), .val (.int .i64 2), .val (.int .i64 3), .row 112, .row 120, .val (.string (⟨#[114, 115, 97, 107, 120]⟩ : ByteArray)), .val (.int .i64 3), .val (.int .i64 1), .val (.slice none 0 0), .val (.slice none 0 0), .val (.string (⟨#[100, 104, 101]⟩ : ByteArray)), .val (.int .i64 3), .val (.int .i64 1), .val (.slice none 0 0), .val (.slice none 0 0), .val (.string (⟨#[101, 99, 100, 104, 101]⟩ : ByteArray)), .val (.int .i64 3), .val (.int .i64 2), .val (.slice none 0 0), .val (.slice none 0 0), .val (.string (⟨#[109, 108, 107, 101, 109]⟩ : ByteArray)), .val (.int .i64 3), .val (.int .i64 3), .row 160, .row 168, .val (.string (⟨#[114, 99, 52]⟩ : ByteArray)), .val (.int .i64 4), .val (.int .i64 3), .row 184, .row 192, .val (.string (⟨#[100, 101, 115, 51]⟩ : ByteArray)), .val (.int .i64 4), .val (.int .i64 3), .row 208, .row 216, .val (.string (⟨#[97, 101, 115, 99, 98, 99]⟩ : ByteArray)), .val (.int .i64 4), .val (.int .i64 3), .row 232, .row 240, .val (.string (⟨#[97, 101, 115, 103, 99, 109]⟩ : ByteArray)), .val (.int .i64 4), .val (.int .i64 3), .row 256, .row 264, .val (.string (⟨#[99, 104, 97, 99, 104, 97]⟩ : ByteArray)), .val (.int .i64 4), .val (.int .i64 0), .val (.slice none 0 0), .row 280, .val (.string (⟨#[104, 109, 97, 99, 109, 100, 53]⟩ : ByteArray)), .val (.int .i64 5), .val (.int .i64 0), .val (.slice none 0 0), .row 296, .val (.string (⟨#[104, 109, 97, 99, 115, 104, 97, 49]⟩ : ByteArray)), .val (.int .i64 5), .val (.int .i64 0), .val (.slice none 0 0), .row 312, .val (.string (⟨#[104, 109, 97, 99, 115, 104, 97, 50, 53, 54]⟩ : ByteArray)), .val (.int .i64 5), .val (.int .i64 0), .val (.slice none 0 0), .row 328, .val (.string (⟨#[97, 101, 97, 100]⟩ : ByteArray)), .val (.int .i64 5), .val (.int .i64 0), .val (.slice none 0 0), .row 344]) und201 (by kernel_rfl) z201 (by kernel_rfl) rfl) rfl rfl ?_
 refine go_ ?_
 refine ch_n fun hU => ?_
 refine aw_r ?_
 obtain rfl := Option.some.inj hg
 exact fin_ [] ⟨rfl, rfl⟩
theorem w_catalog_of (alg : Int) (r : catalog_row × Bool) (hg : g_catalog_of alg = some r) : Fn Tryz.prog 147 0 [.val (.int .i64 alg)] [] (fun d' b' => d' = .tup [.agg (catalog_row.dv r.1), .val (.bool r.2)] ∧ b' = []) := by
 unfold g_catalog_of at hg
 refine Fn.of Tryz.func147 rfl rfl rfl fun w0 I ρ0 => ?_
 show awp _ ⟨w0, I, ρ0, 0, 0, 14⟩ _ _ _
 refine sr_ 0 16 mk_U ?_
 refine go_ ?_
 refine ch_n fun hU => ?_
 refine awp_seq ?_
 refine awp_cut (ι := Bool) (fun (x9_1 : Bool) => mk [(0, .val (.int .i64 alg)), (2, .ptr 0 0), (9, .val (.bool x9_1))] [(0, .box [.val (.string (⟨#[]⟩ : ByteArray)), .val (.int .i64 0), .val (.int .i64 0), .val (.slice none 0 0), .val (.slice none 0 0)] 189)] 1) (fun (x9_1 : Bool) => g_catalog_of.j1 alg x9_1 = some r) ?_ ?_
 ·refine awp_region (sys _ _ []) 16 64 hU rfl rfl ?_
  refine go_ ?_
  rcases bc_ hg with ⟨h2, hg⟩ | ⟨h2, hg⟩
  ·refine go_ ?_
   refine ch_n fun hU => ?_
   exact ⟨true, hg, sub_ [(0, 0)]⟩
  ·refine go_ ?_
   refine ch_n fun hU => ?_
   exact ⟨decide (22 < alg), hg, sub_ [(0, 0)]⟩
 ·rintro x9_1 hg
  replace hg : g_catalog_of.j1 alg x9_1 = some r := hg
  show awp _ _ _ _ (mk _ _ _)
  unfold g_catalog_of.j1 at hg
  refine cg_ rfl hg (fun h5 hg => ?_) fun h5 hg => ?_
  ·refine awp_seq ?_
   refine awp_region (sys _ _ []) 1 25 mk_U rfl rfl ?_
   refine c0_ rfl rfl (.build (r := [.val (.string (⟨#[]⟩ : ByteArray)), .val (.int .i64 0), .val (.int .i64 0), .val (.slice none 0 0), .val (.slice none 0 0)]) und189 pl189 z189 (by kernel_rfl) rfl) rfl rfl ?_
   refine go_ ?_
   refine ch_n fun hU => ?_
   refine aw_r ?_
   obtain rfl := Option.some.inj hg
   exact fin_ [] ⟨rfl, rfl⟩
  ·refine awp_skip ?_
   repeat first | refine st_ ?_ | refine sn_ ?_
   refine sr_ 1 41 mk_U ?_
   obtain ⟨y, hy, hg⟩ := bind_some hg
   refine ca_ (w_catalog_rows _ hy) ?_
   refine go_ ?_
   obtain ⟨e, he, hg⟩ := bind_some hg
   refine c0_ rfl rfl (r_indexAA (f := catalog_row.enc) (L := (arrL 23 y)) und201 ty189 catalog_row.enc_len rfl rfl he (d2 := [.val (.string e.name), .val (.int .i64 e.kind), .val (.int .i64 e.way), .sl 1 (encL eI e.sizes), .sl 1 (encL eI e.strengths)]) rfl) rfl rfl ?_
   refine go_ ?_
   refine ch_n fun hU => ?_
   refine aw_r ?_
   obtain rfl := Option.some.inj hg
   exact fin_ [] ⟨rfl, rfl⟩
end Go.Proofs.YtkpcbnnlefcebaaGreat
