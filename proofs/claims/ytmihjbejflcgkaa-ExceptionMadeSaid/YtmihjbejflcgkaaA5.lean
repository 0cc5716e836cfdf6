/- The program computes the plain functions. -/
import Derived.Test.YtmihjbejflcgkaaT1
import Derived.Test.YtmihjbejflcgkaaA1
import Derived.Test.YtmihjbejflcgkaaA2
import Derived.Test.YtmihjbejflcgkaaA3
import Derived.Test.YtmihjbejflcgkaaA4
set_option linter.unusedVariables false
set_option linter.unusedSimpArgs false
set_option maxRecDepth 100000
set_option maxHeartbeats 1600000
namespace Go.Proofs.Ytmihjbejflcgkaa
open Go.RowKit
theorem w_ref19_Sign (x' : api_Exception) (key : Int) (r : api_Exception × Int) (hg : g_ref19_Sign x' key = some r) : Fn Try.prog 18 0 [.agg (api_Exception.dv x'), .val (.int .i64 key)] [] (fun d' b' => d' = .tup [.agg [.val (.int .i64 r.1.Use.Alg), .val (.int .i64 r.1.Use.Bits), .val (.int .i64 r.1.Purpose), .val (.string r.1.Endpoint), .val (.int .i64 r.1.Days.From), .val (.int .i64 r.1.Days.To), .row 0], .val (.int .i64 r.2)] ∧ b' = [.row 65 2 (encL api_Seal.enc r.1.Seals)]) := by
 unfold g_ref19_Sign at hg
 refine Fn.of Try.func18 rfl rfl rfl fun w0 I ρ0 => ?_
 show awp _ ⟨w0, I, ρ0, 0, 0, 84⟩ _ _ _
 refine sr_ 0 24 mk_U ?_
 refine go_ ?_
 refine ch_n fun hU => ?_
 refine sr_ 24 80 hU ?_
 refine go_ ?_
 obtain ⟨y, hy, hg⟩ := bind_some hg
 refine ca_ (w_ref19_Bytes _ _ hy) ?_
 refine go_ ?_
 refine ch_n fun hU => ?_
 refine awp_seq ?_
 refine sr_ 80 96 hU ?_
 refine go_ ?_
 refine ch_n fun hU => ?_
 refine cg_ rfl hg (fun h4 hg => ?_) fun h4 hg => ?_
 ·refine awp_seq ?_
  refine awp_region (sys _ _ []) 96 128 hU rfl rfl ?_
  refine c0_ rfl rfl (.build (r := [.val (.int .i64 0), .val (.int .i64 0), .val (.int .i64 0), .val (.string (⟨#[]⟩ : ByteArray)), .val (.int .i64 0), .val (.int .i64 0), .val (.slice none 0 0)]) und29 pl29 z29 (by kernel_rfl) rfl) rfl rfl ?_
  refine go_ ?_
  refine ch_n fun hU => ?_
  refine aw_r ?_
  obtain rfl := Option.some.inj hg
  exact fin_ [] ⟨rfl, rfl⟩
 ·refine awp_skip ?_
  repeat first | refine st_ ?_ | refine sn_ ?_
  refine awp_seq ?_
  refine awp_cut (ι := Bool) (fun (x26_1 : Bool) => mk [(1, .val (.int .i64 key)), (2, .ptr 0 0), (4, .ptr 1 0), (6, .sl 1 (encL e8 y.1)), (26, .val (.bool x26_1))] [(0, .box (api_Exception.dv x') 29), (1, .box [.val (.int .i64 0), .val (.int .i64 0), .val (.int .i64 0), .val (.string (⟨#[]⟩ : ByteArray)), .val (.int .i64 0), .val (.int .i64 0), .val (.slice none 0 0)] 29)] 2) (fun (x26_1 : Bool) => g_ref19_Sign.j1 x' key y x26_1 = some r) ?_ ?_
  ·refine awp_region (sys _ _ []) 96 144 hU rfl rfl ?_
   refine go_ ?_
   rcases bc_ hg with ⟨h6, hg⟩ | ⟨h6, hg⟩
   ·refine go_ ?_
    refine ch_n fun hU => ?_
    exact ⟨true, hg, sub_ [(0, 0), (1, 8)]⟩
   ·refine go_ ?_
    refine ch_n fun hU => ?_
    exact ⟨decide (2147483648 < key), hg, sub_ [(0, 0), (1, 8)]⟩
  ·rintro x26_1 hg
   replace hg : g_ref19_Sign.j1 x' key y x26_1 = some r := hg
   show awp _ _ _ _ (mk _ _ _)
   unfold g_ref19_Sign.j1 at hg
   refine cg_ rfl hg (fun h9 hg => ?_) fun h9 hg => ?_
   ·refine awp_seq ?_
    refine awp_region (sys _ _ []) 2 26 mk_U rfl rfl ?_
    refine c0_ rfl rfl (.build (r := [.val (.int .i64 0), .val (.int .i64 0), .val (.int .i64 0), .val (.string (⟨#[]⟩ : ByteArray)), .val (.int .i64 0), .val (.int .i64 0), .val (.slice none 0 0)]) und29 pl29 z29 (by kernel_rfl) rfl) rfl rfl ?_
    refine go_ ?_
    refine ch_n fun hU => ?_
    refine aw_r ?_
    obtain rfl := Option.some.inj hg
    exact fin_ [] ⟨rfl, rfl⟩
   ·refine awp_skip ?_
    repeat first | refine st_ ?_ | refine sn_ ?_
    refine sr_ 2 50 mk_U ?_
    refine go_ ?_
    obtain ⟨y_2, hy_2, hg⟩ := bind_some hg
    refine ca_ (w_ref03_Sum _ _ hy_2) ?_
    refine c0_ rfl rfl (.build (r := [.val (.int .i64 key), .val (.int .i64 y_2)]) und65 pl65 z65 (by kernel_rfl) rfl) rfl rfl ?_
    refine go_ ?_
    refine ch_n fun hU => ?_
    refine sr_ 50 58 hU ?_
    refine go_ ?_
    refine ch_n fun hU => ?_
    refine awp_seq ?_
    refine awp_block ?_
    refine lp_ (fun (k_2 : Int) => mk [(1, .val (.int .i64 key)), (2, .ptr 0 0), (4, .ptr 1 0), (8, .ptr 2 0), (9, .val (.int .i64 k_2))] [(0, .box (api_Exception.dv x') 29), (1, .box [.val (.int .i64 0), .val (.int .i64 0), .val (.int .i64 0), .val (.string (⟨#[]⟩ : ByteArray)), .val (.int .i64 0), .val (.int .i64 0), .val (.slice none 0 0)] 29), (2, .box [.val (.int .i64 key), .val (.int .i64 y_2)] 65)] 3) hg (sub_ [(0, 0), (1, 1), (2, 34)]) ?_
    rintro k_2 m2 o2 hg hn2
    replace hg : g_ref19_Sign.l2 x' key y_2 k_2 = some o2 := hg
    show awp _ _ _ _ (mk _ _ _)
    unfold g_ref19_Sign.l2 at hg
    refine awp_seq ?_
    refine awp_cut (ι := Bool) (fun (x46_3 : Bool) => mk [(1, .val (.int .i64 key)), (2, .ptr 0 0), (4, .ptr 1 0), (8, .ptr 2 0), (9, .val (.int .i64 k_2)), (46, .val (.bool x46_3))] [(0, .box (api_Exception.dv x') 29), (1, .box [.val (.int .i64 0), .val (.int .i64 0), .val (.int .i64 0), .val (.string (⟨#[]⟩ : ByteArray)), .val (.int .i64 0), .val (.int .i64 0), .val (.slice none 0 0)] 29), (2, .box [.val (.int .i64 key), .val (.int .i64 y_2)] 65)] 3) (fun (x46_3 : Bool) => g_ref19_Sign.j3 x' key y_2 k_2 x46_3 = some o2) ?_ ?_
    ·refine awp_region (sys _ _ []) 3 123 mk_U rfl rfl ?_
     refine go_ ?_
     rcases bc_ hg with ⟨h13, hg⟩ | ⟨h13, hg⟩
     ·refine go_ ?_
      obtain ⟨e, he, hg⟩ := bind_some hg
      refine go_ ?_
      refine c0_ (gdv_t rfl rfl h13) rfl (r_fieldE fd65_0 ty3 (by decide) (enc_lt api_Seal.enc_len (getI_at he) (o := 0) (by decide) rfl)) rfl rfl ?_
      refine c0_ (gdv_t rfl rfl h13) rfl (r_loadE1 ty3 (enc_cell api_Seal.enc_len (getI_at he) (o := 0) (c := .int .i64 e.Key) rfl rfl)) rfl rfl ?_
      refine go_ ?_
      refine ch_n fun hU => ?_
      exact ⟨decide (e.Key < key), hg, sub_ [(0, 0), (1, 1), (2, 2)]⟩
     ·refine go_ ?_
      refine ch_n fun hU => ?_
      exact ⟨false, hg, sub_ [(0, 0), (1, 1), (2, 2)]⟩
    ·rintro x46_3 hg
     replace hg : g_ref19_Sign.j3 x' key y_2 k_2 x46_3 = some o2 := hg
     show awp _ _ _ _ (mk _ _ _)
     unfold g_ref19_Sign.j3 at hg
     refine cg_ rfl hg (fun h16 hg => ?_) fun h16 hg => ?_
     ·refine awp_skip ?_
      repeat first | refine st_ ?_ | refine sn_ ?_
      refine awp_block ?_
      refine awp_region (sys _ _ []) 3 27 mk_U rfl rfl ?_
      refine go_ ?_
      refine ch_n fun hU => ?_
      obtain rfl := Option.some.inj hg
      exact ⟨(W (k_2 + 1), m2), Nat.lt_succ_self _, hn2, sub_ [(0, 0), (1, 1), (2, 2)]⟩
     ·refine awp_exit ?_
      repeat first | refine st_ ?_ | refine sn_ ?_
      replace hg := leave hg hn2
      refine sr_ 3 43 mk_U ?_
      refine go_ ?_
      obtain ⟨l, hl, hg⟩ := bind_some hg
      refine c0_ rfl rfl (r_sliS_lo sl27 api_Seal.enc_len hl) rfl rfl ?_
      refine go_ ?_
      refine ch_n fun hU => ?_
      refine awp_cut (ι := List api_Seal) (fun (rest_5 : List api_Seal) => mk [(2, .ptr 0 0), (4, .ptr 1 0), (8, .ptr 2 0), (9, .val (.int .i64 k_2)), (10, .sl 2 (encL api_Seal.enc rest_5))] [(0, .box (api_Exception.dv x') 29), (1, .box [.val (.int .i64 0), .val (.int .i64 0), .val (.int .i64 0), .val (.string (⟨#[]⟩ : ByteArray)), .val (.int .i64 0), .val (.int .i64 0), .val (.slice none 0 0)] 29), (2, .box [.val (.int .i64 key), .val (.int .i64 y_2)] 65)] 3) (fun (rest_5 : List api_Seal) => g_ref19_Sign.j5 x' key y_2 k_2 rest_5 = some r) ?_ ?_
      ·refine awp_cut (ι := Bool) (fun (x63_4 : Bool) => mk [(2, .ptr 0 0), (4, .ptr 1 0), (8, .ptr 2 0), (9, .val (.int .i64 k_2)), (10, .sl 2 (encL api_Seal.enc l)), (63, .val (.bool x63_4))] [(0, .box (api_Exception.dv x') 29), (1, .box [.val (.int .i64 0), .val (.int .i64 0), .val (.int .i64 0), .val (.string (⟨#[]⟩ : ByteArray)), .val (.int .i64 0), .val (.int .i64 0), .val (.slice none 0 0)] 29), (2, .box [.val (.int .i64 key), .val (.int .i64 y_2)] 65)] 3) (fun (x63_4 : Bool) => g_ref19_Sign.j4 x' key y_2 k_2 l x63_4 = some r) ?_ ?_
       ·refine awp_region (sys _ _ []) 43 131 hU rfl rfl ?_
        refine go_ ?_
        rcases bc_ hg with ⟨h19, hg⟩ | ⟨h19, hg⟩
        ·refine go_ ?_
         obtain ⟨e_2, he_2, hg⟩ := bind_some hg
         refine go_ ?_
         refine c0_ (gdv_t rfl rfl h19) rfl (r_fieldE fd65_0 ty3 (by decide) (enc_lt api_Seal.enc_len (getI_at he_2) (o := 0) (by decide) rfl)) rfl rfl ?_
         refine c0_ (gdv_t rfl rfl h19) rfl (r_loadE1 ty3 (enc_cell api_Seal.enc_len (getI_at he_2) (o := 0) (c := .int .i64 e_2.Key) rfl rfl)) rfl rfl ?_
         refine go_ ?_
         refine ch_n fun hU => ?_
         exact ⟨decide (e_2.Key = key), hg, sub_ [(0, 0), (1, 1), (2, 2)]⟩
        ·refine go_ ?_
         refine ch_n fun hU => ?_
         exact ⟨false, hg, sub_ [(0, 0), (1, 1), (2, 2)]⟩
       ·rintro x63_4 hg
        replace hg : g_ref19_Sign.j4 x' key y_2 k_2 l x63_4 = some r := hg
        show awp _ _ _ _ (mk _ _ _)
        unfold g_ref19_Sign.j4 at hg
        refine cg_ rfl hg (fun h22 hg => ?_) fun h22 hg => ?_
        ·refine awp_region (sys _ _ []) 3 27 mk_U rfl rfl ?_
         refine go_ ?_
         obtain ⟨l_2, hl_2, hg⟩ := bind_some hg
         refine c0_ rfl rfl (r_sliS_lo sl27 api_Seal.enc_len hl_2) rfl rfl ?_
         refine go_ ?_
         refine ch_n fun hU => ?_
         exact ⟨l_2, hg, sub_ [(0, 0), (1, 1), (2, 2)]⟩
        ·refine awp_skip ?_
         repeat first | refine st_ ?_ | refine sn_ ?_
         exact ⟨l, hg, sub_ [(0, 0), (1, 1), (2, 2)]⟩
      ·rintro rest_5 hg
       replace hg : g_ref19_Sign.j5 x' key y_2 k_2 rest_5 = some r := hg
       show awp _ _ _ _ (mk _ _ _)
       unfold g_ref19_Sign.j5 at hg
       refine awp_seq ?_
       refine awp_draw (sys _ _ []) (by kernel_rfl) [0, 0, 2, 0, 14, 31, 0, 64, 255, 0, 1023, 2047] 3 99 mk_U rfl rfl (by kernel_rfl) ?_
       refine c0_ rfl rfl (r_buildFull sl27 z65 (by decide) rfl rfl rfl rfl ck65 (cs := []) .nil rfl (l := ([] : List api_Seal)) (f := api_Seal.enc) rfl) rfl rfl ?_
       refine go_ ?_
       obtain ⟨l_3, hl_3, hg⟩ := bind_some hg
       refine c0_ rfl rfl (r_sliS_hi sl27 api_Seal.enc_len hl_3) rfl rfl ?_
       obtain ⟨l_4, hl_4, hg⟩ := bind_some hg
       refine ch_s (rd := [3]) rfl rfl (r_append sl27 api_Seal.enc_len .row rfl .sl rfl hl_4 rfl) rfl rfl ?_
       refine go_ ?_
       refine c0_ rfl rfl (r_buildFull sl27 z65 (by decide) rfl rfl rfl rfl ck65 (cs := [.int .i64 key, .int .i64 y_2]) (.cons .int (.cons .int .nil)) rfl (l := ([(api_Seal.mk key y_2)] : List api_Seal)) (f := api_Seal.enc) rfl) rfl rfl ?_
       obtain ⟨l_5, hl_5, hg⟩ := bind_some hg
       refine ch_s (rd := [43, 59]) rfl rfl (r_append sl27 api_Seal.enc_len .row rfl .row rfl hl_5 rfl) rfl rfl ?_
       refine go_ ?_
       obtain ⟨l_6, hl_6, hg⟩ := bind_some hg
       refine ch_s (rd := [67]) rfl rfl (r_append sl27 api_Seal.enc_len .row rfl .sl rfl hl_6 rfl) rfl rfl ?_
       refine go_ ?_
       refine ch_n fun hU => ?_
       refine awp_seq ?_
       refine sr_ 99 123 hU ?_
       refine go_ ?_
       refine ch_n fun hU => ?_
       refine cg_ rfl hg (fun h26 hg => ?_) fun h26 hg => ?_
       ·refine awp_seq ?_
        refine awp_region (sys _ _ []) 123 147 hU rfl rfl ?_
        refine c0_ rfl rfl (.build (r := [.val (.int .i64 0), .val (.int .i64 0), .val (.int .i64 0), .val (.string (⟨#[]⟩ : ByteArray)), .val (.int .i64 0), .val (.int .i64 0), .val (.slice none 0 0)]) und29 pl29 z29 (by kernel_rfl) rfl) rfl rfl ?_
        refine go_ ?_
        refine ch_n fun hU => ?_
        refine aw_r ?_
        obtain rfl := Option.some.inj hg
        exact fin_ [] ⟨rfl, rfl⟩
       ·refine awp_skip ?_
        repeat first | refine st_ ?_ | refine sn_ ?_
        refine sr_ 123 147 hU ?_
        refine go_ ?_
        refine ch_n fun hU => ?_
        refine sr_ 147 171 hU ?_
        refine go_ ?_
        refine ch_n fun hU => ?_
        refine aw_r ?_
        obtain rfl := Option.some.inj hg
        exact fin_ [(0, 83)] ⟨rfl, rfl⟩
theorem w_make_Dice_One (d : cipherplanmake_Dice) (n : Int) (r : Bool × cipherplanmake_Dice) (hg : g_make_Dice_One d n = some r) : Fn Try.prog 11 1 [.ptr 0 0, .val (.int .i64 n)] [.box [.sl 1 (encL eI d.L), .val (.int .i64 d.At)] 61] (fun d' b' => d' = .val (.bool r.1) ∧ b' = [.box [.sl 1 (encL eI r.2.L), .val (.int .i64 r.2.At)] 61]) := by
 unfold g_make_Dice_One at hg
 refine Fn.of Try.func11 rfl rfl rfl fun w0 I ρ0 => ?_
 show awp _ ⟨w0, I, ρ0, 1, 1, 11⟩ _ _ _
 refine sr_ 1 9 mk_U ?_
 refine go_ ?_
 refine ch_n fun hU => ?_
 refine sr_ 9 65 hU ?_
 refine go_ ?_
 obtain ⟨y, hy, hg⟩ := bind_some hg
 refine cb_ [0] [0] [] false (w_make_Dice_Next _ _ _ hy) ?_
 refine go_ ?_
 refine ch_n fun hU => ?_
 refine aw_r ?_
 obtain rfl := Option.some.inj hg
 exact fin_ [(0, 0)] ⟨rfl, rfl⟩
theorem w_make_Exception (d : cipherplanmake_Dice) (u : api_Use) (endpoint : ByteArray) (r : api_Exception × cipherplanmake_Dice) (hg : g_make_Exception d u endpoint = some r) : Fn Try.prog 29 1 [.ptr 0 0, .agg [.val (.int .i64 u.Alg), .val (.int .i64 u.Bits)], .val (.string endpoint)] [.box [.sl 1 (encL eI d.L), .val (.int .i64 d.At)] 61] (fun d' b' => d' = .agg [.val (.int .i64 r.1.Use.Alg), .val (.int .i64 r.1.Use.Bits), .val (.int .i64 r.1.Purpose), .val (.string r.1.Endpoint), .val (.int .i64 r.1.Days.From), .val (.int .i64 r.1.Days.To), .row 1] ∧ b' = [.box [.sl 1 (encL eI r.2.L), .val (.int .i64 r.2.At)] 61, .row 65 2 (encL api_Seal.enc r.1.Seals)]) := by
 unfold g_make_Exception at hg
 refine Fn.of Try.func29 rfl rfl rfl fun w0 I ρ0 => ?_
 show awp _ ⟨w0, I, ρ0, 1, 1, 55⟩ _ _ _
 refine sr_ 1 17 mk_U ?_
 refine go_ ?_
 refine ch_n fun hU => ?_
 refine awp_seq ?_
 refine awp_draw (sys _ _ [33]) (by kernel_rfl) [0, 0, 0, 6, 0, 31, 0, 127] 17 81 hU rfl rfl (by kernel_rfl) ?_
 refine go_ ?_
 refine ch_z (rd := []) rfl rfl (r_buildFull sl22 z3 (by decide) rfl rfl rfl rfl ck3 (cs := [.int .i64 1, .int .i64 1, .int .i64 1, .int .i64 2, .int .i64 3]) (.cons .int (.cons .int (.cons .int (.cons .int (.cons .int .nil))))) rfl (l := ([1, 1, 1, 2, 3] : List Int)) (f := eI) rfl) rfl rfl rfl ?_
 obtain ⟨y, hy, hg⟩ := bind_some hg
 refine cb_ [0] [0] [] false (w_make_Dice_Of _ _ _ hy) ?_
 refine go_ ?_
 refine c0_ rfl rfl (.build (r := [.val (.int .i64 u.Alg), .val (.int .i64 u.Bits), .val (.int .i64 y.1), .val (.string endpoint), .val (.int .i64 0), .val (.int .i64 0), .val (.slice none 0 0)]) und29 pl29 z29 (by kernel_rfl) rfl) rfl rfl ?_
 refine go_ ?_
 refine ch_n fun hU => ?_
 refine awp_seq ?_
 refine awp_region (sys _ _ [89]) 81 129 hU rfl rfl ?_
 refine go_ ?_
 refine ch_z (rd := []) rfl rfl (r_buildFull sl22 z3 (by decide) rfl rfl rfl rfl ck3 (cs := [.int .i64 0, .int .i64 10, .int .i64 30]) (.cons .int (.cons .int (.cons .int .nil))) rfl (l := ([0, 10, 30] : List Int)) (f := eI) rfl) rfl rfl rfl ?_
 obtain ⟨y_2, hy_2, hg⟩ := bind_some hg
 refine cb_ [0] [0] [] false (w_make_Dice_Of _ _ _ hy_2) ?_
 refine go_ ?_
 refine ch_n fun hU => ?_
 refine awp_seq ?_
 refine awp_draw (sys _ _ [161]) (by kernel_rfl) [0, 1, 3, 0, 0, 24, 63, 127, 255, 511] 129 209 hU rfl rfl (by kernel_rfl) ?_
 refine go_ ?_
 refine ch_z (rd := []) rfl rfl (r_buildFull sl22 z3 (by decide) rfl rfl rfl rfl ck3 (cs := [.int .i64 40, .int .i64 5, .int .i64 200]) (.cons .int (.cons .int (.cons .int .nil))) rfl (l := ([40, 5, 200] : List Int)) (f := eI) rfl) rfl rfl rfl ?_
 obtain ⟨y_3, hy_3, hg⟩ := bind_some hg
 refine cb_ [0] [0] [] false (w_make_Dice_Of _ _ _ hy_3) ?_
 refine go_ ?_
 refine ch_n fun hU => ?_
 refine awp_seq ?_
 refine sr_ 209 233 hU ?_
 refine go_ ?_
 obtain ⟨y_4, hy_4, hg⟩ := bind_some hg
 refine cb_ [0] [0] [] false (w_make_Dice_Next _ _ _ hy_4) ?_
 refine go_ ?_
 refine ch_n fun hU => ?_
 refine awp_block ?_
 refine lp_ (fun ((i_1, x_1, x_1_2, x_1_3, x_1_4, x_1_5, x_1_6, l_1) : Int × Int × Int × Int × ByteArray × Int × Int × List api_Seal) => mk [(0, .ptr 0 0), (6, .ptr 1 0), (7, .ptr 2 0), (8, .val (.int .i64 i_1))] [(0, .box [.sl 1 (encL eI y_4.2.L), .val (.int .i64 y_4.2.At)] 61), (1, .box [.val (.int .i64 0), .val (.int .i64 0), .val (.int .i64 0), .val (.string (⟨#[]⟩ : ByteArray)), .val (.int .i64 0), .val (.int .i64 0), .val (.slice none 0 0)] 29), (2, .box [.val (.int .i64 x_1), .val (.int .i64 x_1_2), .val (.int .i64 x_1_3), .val (.string x_1_4), .val (.int .i64 x_1_5), .val (.int .i64 x_1_6), .row 3] 29), (3, .row 65 2 (encL api_Seal.enc l_1))] 4) hg (sub_ [(0, 0), (1, 9), (2, 65)]) ?_
 rintro ⟨i_1, x_1, x_1_2, x_1_3, x_1_4, x_1_5, x_1_6, l_1⟩ m1 o1 hg hn1
 replace hg : g_make_Exception.l1 y_4 i_1 x_1 x_1_2 x_1_3 x_1_4 x_1_5 x_1_6 l_1 = some o1 := hg
 show awp _ _ _ _ (mk _ _ _)
 unfold g_make_Exception.l1 at hg
 refine awp_seq ?_
 refine sr_ 4 20 mk_U ?_
 refine go_ ?_
 refine ch_n fun hU => ?_
 refine cg_ rfl hg (fun h7 hg => ?_) fun h7 hg => ?_
 ·refine awp_skip ?_
  repeat first | refine st_ ?_ | refine sn_ ?_
  refine awp_seq ?_
  refine awp_block ?_
  refine awp_sub (σ' := mk [(0, .ptr 0 0), (6, .ptr 1 0), (7, .ptr 2 0), (8, .val (.int .i64 i_1))] [(0, .box [.sl 1 (encL eI y_4.2.L), .val (.int .i64 y_4.2.At)] 61), (1, .box [.val (.int .i64 0), .val (.int .i64 0), .val (.int .i64 0), .val (.string (⟨#[]⟩ : ByteArray)), .val (.int .i64 0), .val (.int .i64 0), .val (.slice none 0 0)] 29), (2, .box [.val (.int .i64 x_1), .val (.int .i64 x_1_2), .val (.int .i64 x_1_3), .val (.string x_1_4), .val (.int .i64 x_1_5), .val (.int .i64 x_1_6), .sl 2 (encL api_Seal.enc l_1)] 29)] 3) (sub_ [(0, 0), (1, 1), (2, 2)]) ?_
  refine awp_region (sys _ _ []) 3 67 mk_U rfl rfl ?_
  refine go_ ?_
  obtain ⟨y_5, hy_5, hg⟩ := bind_some hg
  refine ch_call (rd := []) (ps := []) (gs := []) false rfl (w_ref19_Sign _ _ _ hy_5) rfl rfl (.cons (.agg (.cons .val (.cons .val (.cons .val (.cons .val (.cons .val (.cons .val (.cons .sl .nil)))))))) (.cons .val .nil)) rfl rfl (by intro h; cases h) rfl (by intro h; first | (cases h; done) | exact ⟨_, _, ⟨rfl, rfl⟩, by simp, by simp⟩) ?_
  rintro _ _ ⟨rfl, rfl⟩
  refine go_ ?_
  refine ch_n fun hU => ?_
  refine awp_region (sys _ _ []) 67 91 hU rfl rfl ?_
  refine go_ ?_
  refine ch_n fun hU => ?_
  obtain rfl := Option.some.inj hg
  exact ⟨((W (i_1 - 1), y_5.1.Use.Alg, y_5.1.Use.Bits, y_5.1.Purpose, y_5.1.Endpoint, y_5.1.Days.From, y_5.1.Days.To, y_5.1.Seals), m1), Nat.lt_succ_self _, hn1, sub_ [(0, 0), (1, 1), (2, 2), (3, 27)]⟩
 ·refine awp_exit ?_
  repeat first | refine st_ ?_ | refine sn_ ?_
  replace hg := leave hg hn1
  refine awp_cut (ι := List Int × Int × List api_Seal) (fun ((b_4, b_4_2, l_4) : List Int × Int × List api_Seal) => mk [(6, .ptr 1 0), (7, .ptr 2 0)] [(0, .box [.sl 1 (encL eI b_4), .val (.int .i64 b_4_2)] 61), (1, .box [.val (.int .i64 0), .val (.int .i64 0), .val (.int .i64 0), .val (.string (⟨#[]⟩ : ByteArray)), .val (.int .i64 0), .val (.int .i64 0), .val (.slice none 0 0)] 29), (2, .box [.val (.int .i64 x_1), .val (.int .i64 x_1_2), .val (.int .i64 x_1_3), .val (.string x_1_4), .val (.int .i64 x_1_5), .val (.int .i64 x_1_6), .row 3] 29), (3, .row 65 2 (encL api_Seal.enc l_4))] 4) (fun ((b_4, b_4_2, l_4) : List Int × Int × List api_Seal) => g_make_Exception.j4 x_1 x_1_2 x_1_3 x_1_4 x_1_5 x_1_6 b_4 b_4_2 l_4 = some r) ?_ ?_
  ·refine awp_cut (ι := Bool × List Int × Int) (fun ((x49_3, b_3, b_3_2) : Bool × List Int × Int) => mk [(6, .ptr 1 0), (7, .ptr 2 0), (49, .val (.bool x49_3))] [(0, .box [.sl 1 (encL eI b_3), .val (.int .i64 b_3_2)] 61), (1, .box [.val (.int .i64 0), .val (.int .i64 0), .val (.int .i64 0), .val (.string (⟨#[]⟩ : ByteArray)), .val (.int .i64 0), .val (.int .i64 0), .val (.slice none 0 0)] 29), (2, .box [.val (.int .i64 x_1), .val (.int .i64 x_1_2), .val (.int .i64 x_1_3), .val (.string x_1_4), .val (.int .i64 x_1_5), .val (.int .i64 x_1_6), .row 3] 29), (3, .row 65 2 (encL api_Seal.enc l_1))] 4) (fun ((x49_3, b_3, b_3_2) : Bool × List Int × Int) => g_make_Exception.j3 x_1 x_1_2 x_1_3 x_1_4 x_1_5 x_1_6 l_1 x49_3 b_3 b_3_2 = some r) ?_ ?_
   ·refine awp_region (sys _ _ []) 20 84 hU rfl rfl ?_
    refine go_ ?_
    rcases bc_ hg with ⟨h10, hg⟩ | ⟨h10, hg⟩
    ·refine go_ ?_
     obtain ⟨y_6, hy_6, hg⟩ := bind_some hg
     refine cb_ [0] [0] [] false (w_make_Dice_One _ _ _ hy_6) ?_
     refine go_ ?_
     refine ch_n fun hU => ?_
     exact ⟨(y_6.1, y_6.2.L, y_6.2.At), hg, sub_ [(0, 0), (1, 1), (2, 2), (3, 3)]⟩
    ·refine go_ ?_
     refine ch_n fun hU => ?_
     exact ⟨(false, y_4.2.L, y_4.2.At), hg, sub_ [(0, 0), (1, 1), (2, 2), (3, 3)]⟩
   ·rintro ⟨x49_3, b_3, b_3_2⟩ hg
    replace hg : g_make_Exception.j3 x_1 x_1_2 x_1_3 x_1_4 x_1_5 x_1_6 l_1 x49_3 b_3 b_3_2 = some r := hg
    show awp _ _ _ _ (mk _ _ _)
    unfold g_make_Exception.j3 at hg
    refine cg_ rfl hg (fun h13 hg => ?_) fun h13 hg => ?_
    ·refine awp_region (sys _ _ []) 4 44 mk_U rfl rfl ?_
     refine go_ ?_
     obtain ⟨e, he, hg⟩ := bind_some hg
     refine go_ ?_
     refine ch_s (rd := [3]) rfl rfl (r_storeR ty3 rfl (enc_cells_le api_Seal.enc_len (getI_at he) (o := 1) (m := 1) (by decide) rfl) ck3 (cs' := [.int .i64 7]) (.cons .int .nil) (enc_splice api_Seal.enc_len (getI_at he) (o := 1) (x' := (api_Seal.mk e.Key 7)) (Nat.le_of_ble_eq_true rfl) rfl rfl)) rfl rfl ?_
     refine ch_n fun hU => ?_
     exact ⟨(b_3, b_3_2, setI l_1 ((0 : Int).toNat) (api_Seal.mk e.Key 7)), hg, sub_ [(0, 0), (1, 1), (2, 2), (3, 3)]⟩
    ·refine awp_skip ?_
     repeat first | refine st_ ?_ | refine sn_ ?_
     exact ⟨(b_3, b_3_2, l_1), hg, sub_ [(0, 0), (1, 1), (2, 2), (3, 3)]⟩
  ·rintro ⟨b_4, b_4_2, l_4⟩ hg
   replace hg : g_make_Exception.j4 x_1 x_1_2 x_1_3 x_1_4 x_1_5 x_1_6 b_4 b_4_2 l_4 = some r := hg
   show awp _ _ _ _ (mk _ _ _)
   unfold g_make_Exception.j4 at hg
   refine sr_ 4 20 mk_U ?_
   refine go_ ?_
   refine ch_n fun hU => ?_
   refine aw_r ?_
   obtain rfl := Option.some.inj hg
   exact fin_ [(0, 0), (1, 3)] ⟨rfl, rfl⟩
theorem w_law19_made (d : cipherplanmake_Dice) (r : api_Exception × cipherplanmake_Dice) (hg : g_law19_made d = some r) : Fn Try.prog 9 1 [.ptr 0 0] [.box [.sl 1 (encL eI d.L), .val (.int .i64 d.At)] 61] (fun d' b' => d' = .agg [.val (.int .i64 r.1.Use.Alg), .val (.int .i64 r.1.Use.Bits), .val (.int .i64 r.1.Purpose), .val (.string r.1.Endpoint), .val (.int .i64 r.1.Days.From), .val (.int .i64 r.1.Days.To), .row 1] ∧ b' = [.box [.sl 1 (encL eI r.2.L), .val (.int .i64 r.2.At)] 61, .row 65 2 (encL api_Seal.enc r.1.Seals)]) := by
 unfold g_law19_made at hg
 refine Fn.of Try.func9 rfl rfl rfl fun w0 I ρ0 => ?_
 show awp _ ⟨w0, I, ρ0, 1, 1, 72⟩ _ _ _
 refine sr_ 1 9 mk_U ?_
 refine go_ ?_
 refine ch_n fun hU => ?_
 refine awp_seq ?_
 refine awp_region (sys _ _ [41]) 9 81 hU rfl rfl ?_
 refine go_ ?_
 obtain ⟨y, hy, hg⟩ := bind_some hg
 refine cb_ [0] [0] [] false (w_make_Use _ _ hy) ?_
 refine go_ ?_
 refine ch_z (rd := []) rfl rfl (r_buildFull sl85 z9 (by decide) rfl rfl rfl rfl ck9 (cs := [.str (⟨#[119, 101, 98]⟩ : ByteArray), .str (⟨#[100, 98]⟩ : ByteArray)]) (.cons .str (.cons .str .nil)) rfl (l := ([(⟨#[119, 101, 98]⟩ : ByteArray), (⟨#[100, 98]⟩ : ByteArray)] : List ByteArray)) (f := eS) rfl) rfl rfl rfl ?_
 obtain ⟨y_2, hy_2, hg⟩ := bind_some hg
 refine cb_ [0] [0] [] false (w_make_Dice_Word _ _ _ hy_2) ?_
 obtain ⟨y_3, hy_3, hg⟩ := bind_some hg
 refine ch_call (rd := [0]) (ps := [0]) (gs := []) false rfl (w_make_Exception _ _ _ _ hy_3) rfl rfl (.cons (.ptr rfl) (.cons (.agg (.cons .val (.cons .val .nil))) (.cons .val .nil))) ⟨_, _, _, rfl, .head _, ⟨_, rfl, (by repeat' (first | exact AgL.nil | apply AgL.cons | exact Ag.val | exact Ag.sl | exact Ag.nils | exact Ag.ptr rfl | exact Ag.rowK rfl))⟩, rfl⟩ rfl (by intro h; cases h) rfl (by intro h; first | (cases h; done) | exact ⟨_, _, ⟨rfl, rfl⟩, by simp, by simp⟩) ?_
 rintro _ _ ⟨rfl, rfl⟩
 refine go_ ?_
 refine ch_n fun hU => ?_
 refine awp_cut (ι := List Int × Int × Int × Int × Int × ByteArray × Int × Int × List api_Seal) (fun ((b_2, b_2_2, x_2, x_2_2, x_2_3, x_2_4, x_2_5, x_2_6, l_2_2) : List Int × Int × Int × Int × Int × ByteArray × Int × Int × List api_Seal) => mk [(2, .ptr 1 0), (3, .ptr 2 0)] [(0, .box [.sl 1 (encL eI b_2), .val (.int .i64 b_2_2)] 61), (1, .box [.val (.int .i64 0), .val (.int .i64 0), .val (.int .i64 0), .val (.string (⟨#[]⟩ : ByteArray)), .val (.int .i64 0), .val (.int .i64 0), .val (.slice none 0 0)] 29), (2, .box [.val (.int .i64 x_2), .val (.int .i64 x_2_2), .val (.int .i64 x_2_3), .val (.string x_2_4), .val (.int .i64 x_2_5), .val (.int .i64 x_2_6), .row 3] 29), (3, .row 65 2 (encL api_Seal.enc l_2_2))] 4) (fun ((b_2, b_2_2, x_2, x_2_2, x_2_3, x_2_4, x_2_5, x_2_6, l_2_2) : List Int × Int × Int × Int × Int × ByteArray × Int × Int × List api_Seal) => g_law19_made.j2 b_2 b_2_2 x_2 x_2_2 x_2_3 x_2_4 x_2_5 x_2_6 l_2_2 = some r) ?_ ?_
 ·refine awp_seq ?_
  refine awp_region (sys _ _ []) 81 97 hU rfl rfl ?_
  refine go_ ?_
  obtain ⟨y_4, hy_4, hg⟩ := bind_some hg
  refine cb_ [0] [0] [] false (w_make_Dice_Next _ _ _ hy_4) ?_
  refine ch_n fun hU => ?_
  refine awp_block ?_
  refine sr_ 97 113 hU ?_
  refine go_ ?_
  refine ch_n fun hU => ?_
  refine cg_ rfl hg (fun h5 hg => ?_) fun h5 hg => ?_
  ·refine awp_region (sys _ _ []) 113 137 hU rfl rfl ?_
   refine c0_ rfl rfl (.build (r := [.val (.int .i64 99), .val (.int .i64 0)]) und24 pl24 z24 (by kernel_rfl) rfl) rfl rfl ?_
   refine go_ ?_
   refine ch_n fun hU => ?_
   exact ⟨(y_4.2.L, y_4.2.At, 99, 0, y_3.1.Purpose, y_3.1.Endpoint, y_3.1.Days.From, y_3.1.Days.To, y_3.1.Seals), hg, sub_ [(0, 0), (1, 1), (2, 65), (3, 57)]⟩
  ·refine awp_seq ?_
   refine awp_region (sys _ _ []) 113 129 hU rfl rfl ?_
   refine go_ ?_
   refine ch_n fun hU => ?_
   refine cg_ rfl hg (fun h8 hg => ?_) fun h8 hg => ?_
   ·refine awp_region (sys _ _ [137]) 129 169 hU rfl rfl ?_
    refine go_ ?_
    refine ch_z (rd := []) rfl rfl (r_buildFull sl22 z3 (by decide) rfl rfl rfl rfl ck3 (cs := [.int .i64 0, .int .i64 5]) (.cons .int (.cons .int .nil)) rfl (l := ([0, 5] : List Int)) (f := eI) rfl) rfl rfl rfl ?_
    obtain ⟨y_5, hy_5, hg⟩ := bind_some hg
    refine cb_ [0] [0] [] false (w_make_Dice_Of _ _ _ hy_5) ?_
    refine go_ ?_
    refine ch_n fun hU => ?_
    exact ⟨(y_5.2.L, y_5.2.At, y_3.1.Use.Alg, y_3.1.Use.Bits, y_5.1, y_3.1.Endpoint, y_3.1.Days.From, y_3.1.Days.To, y_3.1.Seals), hg, sub_ [(0, 0), (1, 1), (2, 65), (3, 57)]⟩
   ·refine awp_seq ?_
    refine awp_region (sys _ _ []) 129 145 hU rfl rfl ?_
    refine go_ ?_
    refine ch_n fun hU => ?_
    refine cg_ rfl hg (fun h11 hg => ?_) fun h11 hg => ?_
    ·refine awp_region (sys _ _ [153]) 145 185 hU rfl rfl ?_
     refine go_ ?_
     refine ch_z (rd := []) rfl rfl (r_buildFull sl85 z9 (by decide) rfl rfl rfl rfl ck9 (cs := [.str (⟨#[]⟩ : ByteArray), .str (⟨#[97, 32, 98]⟩ : ByteArray)]) (.cons .str (.cons .str .nil)) rfl (l := ([(⟨#[]⟩ : ByteArray), (⟨#[97, 32, 98]⟩ : ByteArray)] : List ByteArray)) (f := eS) rfl) rfl rfl rfl ?_
     obtain ⟨y_6, hy_6, hg⟩ := bind_some hg
     refine cb_ [0] [0] [] false (w_make_Dice_Word _ _ _ hy_6) ?_
     refine go_ ?_
     refine ch_n fun hU => ?_
     exact ⟨(y_6.2.L, y_6.2.At, y_3.1.Use.Alg, y_3.1.Use.Bits, y_3.1.Purpose, y_6.1, y_3.1.Days.From, y_3.1.Days.To, y_3.1.Seals), hg, sub_ [(0, 0), (1, 1), (2, 65), (3, 57)]⟩
    ·refine awp_seq ?_
     refine awp_region (sys _ _ []) 145 161 hU rfl rfl ?_
     refine go_ ?_
     refine ch_n fun hU => ?_
     refine cg_ rfl hg (fun h14 hg => ?_) fun h14 hg => ?_
     ·refine awp_region (sys _ _ [169, 193]) 161 233 hU rfl rfl ?_
      refine go_ ?_
      refine ch_z (rd := []) rfl rfl (r_buildFull sl22 z3 (by decide) rfl rfl rfl rfl ck3 (cs := [.int .i64 9, .int .i64 (-1), .int .i64 0]) (.cons .int (.cons .int (.cons .int .nil))) rfl (l := ([9, -1, 0] : List Int)) (f := eI) rfl) rfl rfl rfl ?_
      obtain ⟨y_7, hy_7, hg⟩ := bind_some hg
      refine cb_ [0] [0] [] false (w_make_Dice_Of _ _ _ hy_7) ?_
      refine go_ ?_
      refine ch_z (rd := []) rfl rfl (r_buildFull sl22 z3 (by decide) rfl rfl rfl rfl ck3 (cs := [.int .i64 9, .int .i64 40001, .int .i64 40002]) (.cons .int (.cons .int (.cons .int .nil))) rfl (l := ([9, 40001, 40002] : List Int)) (f := eI) rfl) rfl rfl rfl ?_
      obtain ⟨y_8, hy_8, hg⟩ := bind_some hg
      refine cb_ [0] [0] [] false (w_make_Dice_Of _ _ _ hy_8) ?_
      refine c0_ rfl rfl (.build (r := [.val (.int .i64 y_7.1), .val (.int .i64 y_8.1)]) und26 pl26 z26 (by kernel_rfl) rfl) rfl rfl ?_
      refine go_ ?_
      refine ch_n fun hU => ?_
      exact ⟨(y_8.2.L, y_8.2.At, y_3.1.Use.Alg, y_3.1.Use.Bits, y_3.1.Purpose, y_3.1.Endpoint, y_7.1, y_8.1, y_3.1.Seals), hg, sub_ [(0, 0), (1, 1), (2, 65), (3, 57)]⟩
     ·refine awp_seq ?_
      refine awp_region (sys _ _ []) 161 177 hU rfl rfl ?_
      refine go_ ?_
      refine ch_n fun hU => ?_
      refine cg_ rfl hg (fun h17 hg => ?_) fun h17 hg => ?_
      ·refine awp_draw (sys _ _ [201, 225]) (by kernel_rfl) [0, 1, 0, 0, 12, 0, 0, 124, 252, 508, 1023, 2047, 4095] 177 281 hU rfl rfl (by kernel_rfl) ?_
       refine go_ ?_
       refine ch_z (rd := []) rfl rfl (r_buildFull sl22 z3 (by decide) rfl rfl rfl rfl ck3 (cs := [.int .i64 0, .int .i64 2147483648, .int .i64 2147483649]) (.cons .int (.cons .int (.cons .int .nil))) rfl (l := ([0, 2147483648, 2147483649] : List Int)) (f := eI) rfl) rfl rfl rfl ?_
       obtain ⟨y_9, hy_9, hg⟩ := bind_some hg
       refine cb_ [0] [0] [] false (w_make_Dice_Of _ _ _ hy_9) ?_
       refine go_ ?_
       refine ch_z (rd := []) rfl rfl (r_buildFull sl22 z3 (by decide) rfl rfl rfl rfl ck3 (cs := [.int .i64 4294967296, .int .i64 5]) (.cons .int (.cons .int .nil)) rfl (l := ([4294967296, 5] : List Int)) (f := eI) rfl) rfl rfl rfl ?_
       obtain ⟨y_10, hy_10, hg⟩ := bind_some hg
       refine cb_ [0] [0] [] false (w_make_Dice_Of _ _ _ hy_10) ?_
       refine c0_ rfl rfl (.build (r := [.val (.int .i64 y_9.1), .val (.int .i64 y_10.1)]) und65 pl65 z65 (by kernel_rfl) rfl) rfl rfl ?_
       refine c0_ rfl rfl (r_buildFull sl27 z65 (by decide) rfl rfl rfl rfl ck65 (cs := [.int .i64 y_9.1, .int .i64 y_10.1]) (.cons .int (.cons .int .nil)) rfl (l := ([(api_Seal.mk y_9.1 y_10.1)] : List api_Seal)) (f := api_Seal.enc) rfl) rfl rfl ?_
       obtain ⟨l, hl, hg⟩ := bind_some hg
       refine ch_s (rd := [57, 249]) rfl rfl (r_append sl27 api_Seal.enc_len .row rfl .row rfl hl rfl) rfl rfl ?_
       refine go_ ?_
       refine ch_n fun hU => ?_
       exact ⟨(y_10.2.L, y_10.2.At, y_3.1.Use.Alg, y_3.1.Use.Bits, y_3.1.Purpose, y_3.1.Endpoint, y_3.1.Days.From, y_3.1.Days.To, l), hg, sub_ [(0, 0), (1, 1), (2, 65), (3, 257)]⟩
      ·refine awp_seq ?_
       refine awp_region (sys _ _ []) 177 193 hU rfl rfl ?_
       refine go_ ?_
       refine ch_n fun hU => ?_
       refine cg_ rfl hg (fun h20 hg => ?_) fun h20 hg => ?_
       ·refine awp_seq ?_
        refine awp_region (sys _ _ []) 193 201 hU rfl rfl ?_
        refine go_ ?_
        refine ch_n fun hU => ?_
        refine awp_block ?_
        refine lp_ (fun ((i_1, d_1, d_1_2, l_1) : Int × List Int × Int × List api_Seal) => mk [(0, .ptr 0 0), (2, .ptr 1 0), (3, .ptr 2 0), (4, .val (.int .i64 i_1))] [(0, .box [.sl 1 (encL eI d_1), .val (.int .i64 d_1_2)] 61), (1, .box [.val (.int .i64 0), .val (.int .i64 0), .val (.int .i64 0), .val (.string (⟨#[]⟩ : ByteArray)), .val (.int .i64 0), .val (.int .i64 0), .val (.slice none 0 0)] 29), (2, .box [.val (.int .i64 y_3.1.Use.Alg), .val (.int .i64 y_3.1.Use.Bits), .val (.int .i64 y_3.1.Purpose), .val (.string y_3.1.Endpoint), .val (.int .i64 y_3.1.Days.From), .val (.int .i64 y_3.1.Days.To), .row 3] 29), (3, .row 65 2 (encL api_Seal.enc l_1))] 4) hg (sub_ [(0, 0), (1, 1), (2, 65), (3, 57)]) ?_
        rintro ⟨i_1, d_1, d_1_2, l_1⟩ m1 o1 hg hn1
        replace hg : g_law19_made.l1 y_3 i_1 d_1 d_1_2 l_1 = some o1 := hg
        show awp _ _ _ _ (mk _ _ _)
        unfold g_law19_made.l1 at hg
        refine awp_seq ?_
        refine sr_ 4 44 mk_U ?_
        refine go_ ?_
        obtain ⟨y_11, hy_11, hg⟩ := bind_some hg
        refine cb_ [0] [0] [] false (w_make_Dice_Next _ _ _ hy_11) ?_
        refine go_ ?_
        refine ch_n fun hU => ?_
        refine cg_ rfl hg (fun h23 hg => ?_) fun h23 hg => ?_
        ·refine awp_skip ?_
         repeat first | refine st_ ?_ | refine sn_ ?_
         refine awp_seq ?_
         refine awp_block ?_
         refine awp_region (sys _ _ []) 44 116 hU rfl rfl ?_
         refine go_ ?_
         refine c0_ rfl rfl (.build (r := [.val (.int .i64 (W (100 + i_1))), .val (.int .i64 0)]) und65 pl65 z65 (by kernel_rfl) rfl) rfl rfl ?_
         refine c0_ rfl rfl (r_buildFull sl27 z65 (by decide) rfl rfl rfl rfl ck65 (cs := [.int .i64 (W (100 + i_1)), .int .i64 0]) (.cons .int (.cons .int .nil)) rfl (l := ([(api_Seal.mk (W (100 + i_1)) 0)] : List api_Seal)) (f := api_Seal.enc) rfl) rfl rfl ?_
         obtain ⟨l_2, hl_2, hg⟩ := bind_some hg
         refine ch_s (rd := [3, 84]) rfl rfl (r_append sl27 api_Seal.enc_len .row rfl .row rfl hl_2 rfl) rfl rfl ?_
         refine go_ ?_
         refine ch_n fun hU => ?_
         refine awp_region (sys _ _ []) 116 140 hU rfl rfl ?_
         refine go_ ?_
         refine ch_n fun hU => ?_
         obtain rfl := Option.some.inj hg
         exact ⟨((W (i_1 + 1), y_11.2.L, y_11.2.At, l_2), m1), Nat.lt_succ_self _, hn1, sub_ [(0, 0), (1, 1), (2, 2), (3, 92)]⟩
        ·refine awp_exit ?_
         repeat first | refine st_ ?_ | refine sn_ ?_
         replace hg := leave hg hn1
         exact ⟨(y_11.2.L, y_11.2.At, y_3.1.Use.Alg, y_3.1.Use.Bits, y_3.1.Purpose, y_3.1.Endpoint, y_3.1.Days.From, y_3.1.Days.To, l_1), hg, sub_ [(0, 0), (1, 1), (2, 2), (3, 3)]⟩
       ·refine awp_skip ?_
        repeat first | refine st_ ?_ | refine sn_ ?_
        exact ⟨(y_4.2.L, y_4.2.At, y_3.1.Use.Alg, y_3.1.Use.Bits, y_3.1.Purpose, y_3.1.Endpoint, y_3.1.Days.From, y_3.1.Days.To, y_3.1.Seals), hg, sub_ [(0, 0), (1, 1), (2, 65), (3, 57)]⟩
 ·rintro ⟨b_2, b_2_2, x_2, x_2_2, x_2_3, x_2_4, x_2_5, x_2_6, l_2_2⟩ hg
  replace hg : g_law19_made.j2 b_2 b_2_2 x_2 x_2_2 x_2_3 x_2_4 x_2_5 x_2_6 l_2_2 = some r := hg
  show awp _ _ _ _ (mk _ _ _)
  unfold g_law19_made.j2 at hg
  refine sr_ 4 20 mk_U ?_
  refine go_ ?_
  refine ch_n fun hU => ?_
  refine aw_r ?_
  obtain rfl := Option.some.inj hg
  exact fin_ [(0, 0), (1, 3)] ⟨rfl, rfl⟩
theorem w_make_Owners (d : cipherplanmake_Dice) (r : api_Owners × cipherplanmake_Dice) (hg : g_make_Owners d = some r) : Fn Try.prog 10 1 [.ptr 0 0] [.box [.sl 1 (encL eI d.L), .val (.int .i64 d.At)] 61] (fun d' b' => d' = .agg [.sl 1 (encL eI r.1.Keys), .val (.int .i64 r.1.Need)] ∧ b' = [.box [.sl 1 (encL eI r.2.L), .val (.int .i64 r.2.At)] 61]) := by
 unfold g_make_Owners at hg
 refine Fn.of Try.func10 rfl rfl rfl fun w0 I ρ0 => ?_
 show awp _ ⟨w0, I, ρ0, 1, 1, 8⟩ _ _ _
 refine sr_ 1 9 mk_U ?_
 refine go_ ?_
 refine ch_n fun hU => ?_
 refine sr_ 9 57 hU ?_
 refine c0_ rfl rfl (r_buildFull sl22 z3 (by decide) rfl rfl rfl rfl ck3 (cs := [.int .i64 51, .int .i64 52, .int .i64 53]) (.cons .int (.cons .int (.cons .int .nil))) rfl (l := ([51, 52, 53] : List Int)) (f := eI) rfl) rfl rfl ?_
 refine go_ ?_
 obtain ⟨y, hy, hg⟩ := bind_some hg
 refine cb_ [0] [0] [] false (w_make_Dice_Next _ _ _ hy) ?_
 refine go_ ?_
 refine c0_ rfl rfl (.build (r := [.row 9, .val (.int .i64 (W (1 + y.1)))]) und36 pl36 z36 (by kernel_rfl) rfl) rfl rfl ?_
 refine go_ ?_
 refine ch_n fun hU => ?_
 refine aw_r ?_
 obtain rfl := Option.some.inj hg
 exact fin_ [(0, 0)] ⟨rfl, rfl⟩
theorem w_ref19_Same (a : api_Exception) (b : api_Exception) (r : Bool) (hg : g_ref19_Same a b = some r) : Fn Try.prog 21 0 [.agg (api_Exception.dv a), .agg (api_Exception.dv b)] [] (fun d' b' => d' = .val (.bool r) ∧ b' = []) := by
 unfold g_ref19_Same at hg
 refine Fn.of Try.func21 rfl rfl rfl fun w0 I ρ0 => ?_
 show awp _ ⟨w0, I, ρ0, 0, 0, 59⟩ _ _ _
 refine sr_ 0 24 mk_U ?_
 refine go_ ?_
 refine ch_n fun hU => ?_
 refine awp_seq ?_
 refine awp_cut (ι := Bool) (fun (x40_1 : Bool) => mk [(2, .ptr 0 0), (3, .ptr 1 0), (40, .val (.bool x40_1))] [(0, .box (api_Exception.dv a) 29), (1, .box (api_Exception.dv b) 29)] 2) (fun (x40_1 : Bool) => g_ref19_Same.j1 a b x40_1 = some r) ?_ ?_
 ·refine awp_region (sys _ _ []) 24 304 hU rfl rfl ?_
  refine go_ ?_
  refine c0_ rfl rfl (steq24_neq a.Use b.Use) rfl rfl ?_
  refine go_ ?_
  rcases bc_ hg with ⟨h2, hg⟩ | ⟨h2, hg⟩
  ·refine go_ ?_
   refine ch_n fun hU => ?_
   exact ⟨true, hg, sub_ [(0, 0), (1, 8)]⟩
  ·refine go_ ?_
   rcases bc_ hg with ⟨h4, hg⟩ | ⟨h4, hg⟩
   ·refine go_ ?_
    refine ch_n fun hU => ?_
    exact ⟨true, hg, sub_ [(0, 0), (1, 8)]⟩
   ·refine go_ ?_
    rcases bc_ hg with ⟨h6, hg⟩ | ⟨h6, hg⟩
    ·refine go_ ?_
     refine ch_n fun hU => ?_
     exact ⟨true, hg, sub_ [(0, 0), (1, 8)]⟩
    ·refine go_ ?_
     refine c0_ (gdv_t rfl rfl h6) rfl (steq26_neq a.Days b.Days) rfl rfl ?_
     refine go_ ?_
     rcases bc_ hg with ⟨h8, hg⟩ | ⟨h8, hg⟩
     ·refine go_ ?_
      refine ch_n fun hU => ?_
      exact ⟨true, hg, sub_ [(0, 0), (1, 8)]⟩
     ·refine go_ ?_
      refine ch_n fun hU => ?_
      exact ⟨!decide ((a.Seals.length : Int) = (b.Seals.length : Int)), hg, sub_ [(0, 0), (1, 8)]⟩
 ·rintro x40_1 hg
  replace hg : g_ref19_Same.j1 a b x40_1 = some r := hg
  show awp _ _ _ _ (mk _ _ _)
  unfold g_ref19_Same.j1 at hg
  refine cg_ rfl hg (fun h11 hg => ?_) fun h11 hg => ?_
  ·refine awp_seq ?_
   refine awp_region (sys _ _ []) 2 10 mk_U rfl rfl ?_
   refine go_ ?_
   refine ch_n fun hU => ?_
   refine aw_r ?_
   obtain rfl := Option.some.inj hg
   exact fin_ [] ⟨rfl, rfl⟩
  ·refine awp_skip ?_
   repeat first | refine st_ ?_ | refine sn_ ?_
   refine awp_seq ?_
   refine sr_ 2 10 mk_U ?_
   refine go_ ?_
   refine ch_n fun hU => ?_
   refine awp_block ?_
   refine lp_ (fun (i_2 : Int) => mk [(2, .ptr 0 0), (3, .ptr 1 0), (5, .val (.int .i64 i_2))] [(0, .box (api_Exception.dv a) 29), (1, .box (api_Exception.dv b) 29)] 2) hg (sub_ [(0, 0), (1, 1)]) ?_
   rintro i_2 m2 o2 hg hn2
   replace hg : g_ref19_Same.l2 a b i_2 = some o2 := hg
   show awp _ _ _ _ (mk _ _ _)
   unfold g_ref19_Same.l2 at hg
   refine awp_seq ?_
   refine sr_ 2 42 mk_U ?_
   refine go_ ?_
   refine ch_n fun hU => ?_
   refine cg_ rfl hg (fun h15 hg => ?_) fun h15 hg => ?_
   ·refine awp_skip ?_
    repeat first | refine st_ ?_ | refine sn_ ?_
    refine awp_seq ?_
    refine awp_block ?_
    refine awp_seq ?_
    refine awp_draw (sys _ _ []) (by kernel_rfl) [0, 1, 0, 7, 15, 0, 32, 0, 224, 480, 1023] 42 130 hU rfl rfl (by kernel_rfl) ?_
    refine go_ ?_
    obtain ⟨e, he, hg⟩ := bind_some hg
    refine go_ ?_
    refine c0_ rfl rfl (r_loadEA ty65 (enc_cells api_Seal.enc_len (getI_at he) (o := 0) (m := 2) (cs := [.int .i64 e.Key, .int .i64 e.Sum]) rfl (by decide) rfl) (enc_cells_le api_Seal.enc_len (getI_at he) (o := 0) (m := 2) (by decide) rfl)) rfl rfl ?_
    refine go_ ?_
    obtain ⟨e_2, he_2, hg⟩ := bind_some hg
    refine go_ ?_
    refine c0_ rfl rfl (r_loadEA ty65 (enc_cells api_Seal.enc_len (getI_at he_2) (o := 0) (m := 2) (cs := [.int .i64 e_2.Key, .int .i64 e_2.Sum]) rfl (by decide) rfl) (enc_cells_le api_Seal.enc_len (getI_at he_2) (o := 0) (m := 2) (by decide) rfl)) rfl rfl ?_
    refine c0_ rfl rfl (steq65_neq e e_2) rfl rfl ?_
    refine ch_n fun hU => ?_
    refine cg_ rfl hg (fun h17 hg => ?_) fun h17 hg => ?_
    ·refine awp_seq ?_
     refine awp_region (sys _ _ []) 130 138 hU rfl rfl ?_
     refine go_ ?_
     refine ch_n fun hU => ?_
     refine aw_r ?_
     replace hg := leave hg hn2
     obtain rfl := Option.some.inj hg
     exact fin_ [] ⟨rfl, rfl⟩
    ·refine awp_skip ?_
     repeat first | refine st_ ?_ | refine sn_ ?_
     refine awp_region (sys _ _ []) 130 154 hU rfl rfl ?_
     refine go_ ?_
     refine ch_n fun hU => ?_
     obtain rfl := Option.some.inj hg
     exact ⟨(W (i_2 + 1), m2), Nat.lt_succ_self _, hn2, sub_ [(0, 0), (1, 1)]⟩
   ·refine awp_exit ?_
    repeat first | refine st_ ?_ | refine sn_ ?_
    replace hg := leave hg hn2
    refine sr_ 42 50 hU ?_
    refine go_ ?_
    refine ch_n fun hU => ?_
    refine aw_r ?_
    obtain rfl := Option.some.inj hg
    exact fin_ [] ⟨rfl, rfl⟩
theorem w_ref02_Has (l : (List Int)) (n : Int) (r : Bool) (hg : g_ref02_Has l n = some r) : Fn Try.prog 53 0 [.sl 1 (encL eI l), .val (.int .i64 n)] [] (fun d' b' => d' = .val (.bool r) ∧ b' = []) := by
 unfold g_ref02_Has at hg
 refine Fn.of Try.func53 rfl rfl rfl fun w0 I ρ0 => ?_
 show awp _ ⟨w0, I, ρ0, 0, 0, 18⟩ _ _ _
 refine sr_ 0 8 mk_U ?_
 refine go_ ?_
 refine ch_n fun hU => ?_
 refine awp_seq ?_
 refine sr_ 8 16 hU ?_
 refine go_ ?_
 refine ch_n fun hU => ?_
 refine awp_block ?_
 refine lp_ (fun (i_1 : Int) => mk [(0, .sl 1 (encL eI l)), (1, .val (.int .i64 n)), (5, .val (.int .i64 i_1))] [] 0) hg (sub_ []) ?_
 rintro i_1 m1 o1 hg hn1
 replace hg : g_ref02_Has.l1 l n i_1 = some o1 := hg
 show awp _ _ _ _ (mk _ _ _)
 unfold g_ref02_Has.l1 at hg
 refine awp_seq ?_
 refine sr_ 0 32 mk_U ?_
 refine go_ ?_
 refine ch_n fun hU => ?_
 refine cg_ rfl hg (fun h4 hg => ?_) fun h4 hg => ?_
 ·refine awp_skip ?_
  repeat first | refine st_ ?_ | refine sn_ ?_
  refine awp_seq ?_
  refine awp_block ?_
  refine sr_ 32 80 hU ?_
  refine go_ ?_
  obtain ⟨e, he, hg⟩ := bind_some hg
  refine go_ ?_
  refine c0_ rfl rfl (r_loadE1 ty3 (enc_cell eI_len (getI_at he) (o := 0) (c := .int .i64 e) rfl rfl)) rfl rfl ?_
  refine go_ ?_
  refine ch_n fun hU => ?_
  refine cg_ rfl hg (fun h6 hg => ?_) fun h6 hg => ?_
  ·refine awp_seq ?_
   refine awp_region (sys _ _ []) 80 88 hU rfl rfl ?_
   refine go_ ?_
   refine ch_n fun hU => ?_
   refine aw_r ?_
   replace hg := leave hg hn1
   obtain rfl := Option.some.inj hg
   exact fin_ [] ⟨rfl, rfl⟩
  ·refine awp_skip ?_
   repeat first | refine st_ ?_ | refine sn_ ?_
   refine awp_region (sys _ _ []) 80 104 hU rfl rfl ?_
   refine go_ ?_
   refine ch_n fun hU => ?_
   obtain rfl := Option.some.inj hg
   exact ⟨(W (i_1 + 1), m1), Nat.lt_succ_self _, hn1, sub_ []⟩
 ·refine awp_exit ?_
  repeat first | refine st_ ?_ | refine sn_ ?_
  replace hg := leave hg hn1
  refine sr_ 32 40 hU ?_
  refine go_ ?_
  refine ch_n fun hU => ?_
  refine aw_r ?_
  obtain rfl := Option.some.inj hg
  exact fin_ [] ⟨rfl, rfl⟩
theorem w_ref19_Valid (x' : api_Exception) (o : api_Owners) (r : Bool) (hg : g_ref19_Valid x' o = some r) : Fn Try.prog 23 0 [.agg (api_Exception.dv x'), .agg [.sl 1 (encL eI o.Keys), .val (.int .i64 o.Need)]] [] (fun d' b' => d' = .val (.bool r) ∧ b' = []) := by
 unfold g_ref19_Valid at hg
 refine Fn.of Try.func23 rfl rfl rfl fun w0 I ρ0 => ?_
 show awp _ ⟨w0, I, ρ0, 0, 0, 54⟩ _ _ _
 refine sr_ 0 24 mk_U ?_
 refine go_ ?_
 refine ch_n fun hU => ?_
 refine sr_ 24 80 hU ?_
 refine go_ ?_
 obtain ⟨y, hy, hg⟩ := bind_some hg
 refine ca_ (w_ref19_Bytes _ _ hy) ?_
 refine go_ ?_
 refine ch_n fun hU => ?_
 refine awp_seq ?_
 refine awp_cut (ι := Bool) (fun (x20_1 : Bool) => mk [(2, .ptr 0 0), (3, .ptr 1 0), (5, .sl 1 (encL e8 y.1)), (20, .val (.bool x20_1))] [(0, .box (api_Exception.dv x') 29), (1, .box [.sl 1 (encL eI o.Keys), .val (.int .i64 o.Need)] 36)] 2) (fun (x20_1 : Bool) => g_ref19_Valid.j1 x' o y x20_1 = some r) ?_ ?_
 ·refine awp_region (sys _ _ []) 80 136 hU rfl rfl ?_
  refine go_ ?_
  rcases bc_ hg with ⟨h3, hg⟩ | ⟨h3, hg⟩
  ·refine go_ ?_
   refine ch_n fun hU => ?_
   exact ⟨true, hg, sub_ [(0, 0), (1, 8)]⟩
  ·refine go_ ?_
   refine ch_n fun hU => ?_
   exact ⟨decide (o.Need < 1), hg, sub_ [(0, 0), (1, 8)]⟩
 ·rintro x20_1 hg
  replace hg : g_ref19_Valid.j1 x' o y x20_1 = some r := hg
  show awp _ _ _ _ (mk _ _ _)
  unfold g_ref19_Valid.j1 at hg
  refine cg_ rfl hg (fun h6 hg => ?_) fun h6 hg => ?_
  ·refine awp_seq ?_
   refine awp_region (sys _ _ []) 2 10 mk_U rfl rfl ?_
   refine go_ ?_
   refine ch_n fun hU => ?_
   refine aw_r ?_
   obtain rfl := Option.some.inj hg
   exact fin_ [] ⟨rfl, rfl⟩
  ·refine awp_skip ?_
   repeat first | refine st_ ?_ | refine sn_ ?_
   refine sr_ 2 10 mk_U ?_
   refine go_ ?_
   refine ch_n fun hU => ?_
   refine awp_seq ?_
   refine sr_ 10 18 hU ?_
   refine go_ ?_
   refine ch_n fun hU => ?_
   refine awp_block ?_
   refine lp_ (fun ((n_2, i_2) : Int × Int) => mk [(2, .ptr 0 0), (3, .ptr 1 0), (5, .sl 1 (encL e8 y.1)), (7, .val (.int .i64 n_2)), (8, .val (.int .i64 i_2))] [(0, .box (api_Exception.dv x') 29), (1, .box [.sl 1 (encL eI o.Keys), .val (.int .i64 o.Need)] 36)] 2) hg (sub_ [(0, 0), (1, 1)]) ?_
   rintro ⟨n_2, i_2⟩ m2 o2 hg hn2
   replace hg : g_ref19_Valid.l2 x' o y n_2 i_2 = some o2 := hg
   show awp _ _ _ _ (mk _ _ _)
   unfold g_ref19_Valid.l2 at hg
   refine awp_seq ?_
   refine sr_ 2 42 mk_U ?_
   refine go_ ?_
   refine ch_n fun hU => ?_
   refine cg_ rfl hg (fun h11 hg => ?_) fun h11 hg => ?_
   ·refine awp_skip ?_
    repeat first | refine st_ ?_ | refine sn_ ?_
    refine awp_cut (ι := Int) (fun (n_4 : Int) => mk [(2, .ptr 0 0), (3, .ptr 1 0), (5, .sl 1 (encL e8 y.1)), (7, .val (.int .i64 n_4)), (8, .val (.int .i64 i_2))] [(0, .box (api_Exception.dv x') 29), (1, .box [.sl 1 (encL eI o.Keys), .val (.int .i64 o.Need)] 36)] 2) (fun (n_4 : Int) => g_ref19_Valid.j4 i_2 n_4 = some o2) ?_ ?_
    ·refine awp_block ?_
     refine awp_cut (ι := Bool) (fun (x47_3 : Bool) => mk [(2, .ptr 0 0), (3, .ptr 1 0), (5, .sl 1 (encL e8 y.1)), (7, .val (.int .i64 n_2)), (8, .val (.int .i64 i_2)), (47, .val (.bool x47_3))] [(0, .box (api_Exception.dv x') 29), (1, .box [.sl 1 (encL eI o.Keys), .val (.int .i64 o.Need)] 36)] 2) (fun (x47_3 : Bool) => g_ref19_Valid.j3 n_2 i_2 x47_3 = some o2) ?_ ?_
     ·refine awp_draw (sys _ _ []) (by kernel_rfl) [0, 1, 0, 7, 15, 31, 0, 64, 255, 511, 1023, 2047, 1023, 5119, 1023, 29695, 62463, 127999, 262143, 524287] 42 202 hU rfl rfl (by kernel_rfl) ?_
      refine go_ ?_
      obtain ⟨e, he, hg⟩ := bind_some hg
      refine go_ ?_
      refine c0_ rfl rfl (r_fieldE fd65_1 ty3 (by decide) (enc_lt api_Seal.enc_len (getI_at he) (o := 1) (by decide) rfl)) rfl rfl ?_
      refine c0_ rfl rfl (r_loadE1 ty3 (enc_cell api_Seal.enc_len (getI_at he) (o := 1) (c := .int .i64 e.Sum) rfl rfl)) rfl rfl ?_
      refine go_ ?_
      obtain ⟨y_2, hy_2, hg⟩ := bind_some hg
      refine ca_ (w_ref03_Sum _ _ hy_2) ?_
      refine go_ ?_
      rcases bc_ hg with ⟨h12, hg⟩ | ⟨h12, hg⟩
      ·refine go_ ?_
       refine c0_ (gdv_t rfl rfl h12) rfl (r_fieldE fd65_0 ty3 (by decide) (enc_lt api_Seal.enc_len (getI_at he) (o := 0) (by decide) rfl)) rfl rfl ?_
       refine c0_ (gdv_t rfl rfl h12) rfl (r_loadE1 ty3 (enc_cell api_Seal.enc_len (getI_at he) (o := 0) (c := .int .i64 e.Key) rfl rfl)) rfl rfl ?_
       obtain ⟨y_3, hy_3, hg⟩ := bind_some hg
       refine ca_ (w_ref02_Has _ _ _ hy_3) ?_
       refine go_ ?_
       refine ch_n fun hU => ?_
       exact ⟨y_3, hg, sub_ [(0, 0), (1, 1)]⟩
      ·refine go_ ?_
       refine ch_n fun hU => ?_
       exact ⟨false, hg, sub_ [(0, 0), (1, 1)]⟩
     ·rintro x47_3 hg
      replace hg : g_ref19_Valid.j3 n_2 i_2 x47_3 = some o2 := hg
      show awp _ _ _ _ (mk _ _ _)
      unfold g_ref19_Valid.j3 at hg
      refine cg_ rfl hg (fun h15 hg => ?_) fun h15 hg => ?_
      ·refine awp_region (sys _ _ []) 2 26 mk_U rfl rfl ?_
       refine go_ ?_
       refine ch_n fun hU => ?_
       exact ⟨W (n_2 + 1), hg, sub_ [(0, 0), (1, 1)]⟩
      ·refine awp_skip ?_
       repeat first | refine st_ ?_ | refine sn_ ?_
       exact ⟨n_2, hg, sub_ [(0, 0), (1, 1)]⟩
    ·rintro n_4 hg
     replace hg : g_ref19_Valid.j4 i_2 n_4 = some o2 := hg
     show awp _ _ _ _ (mk _ _ _)
     unfold g_ref19_Valid.j4 at hg
     refine awp_region (sys _ _ []) 2 26 mk_U rfl rfl ?_
     refine go_ ?_
     refine ch_n fun hU => ?_
     obtain rfl := Option.some.inj hg
     exact ⟨((n_4, W (i_2 + 1)), m2), Nat.lt_succ_self _, hn2, sub_ [(0, 0), (1, 1)]⟩
   ·refine awp_exit ?_
    repeat first | refine st_ ?_ | refine sn_ ?_
    replace hg := leave hg hn2
    refine sr_ 42 82 hU ?_
    refine go_ ?_
    refine ch_n fun hU => ?_
    refine aw_r ?_
    obtain rfl := Option.some.inj hg
    exact fin_ [] ⟨rfl, rfl⟩
theorem w_ref19_Covers (x' : api_Exception) (u : api_Use) (purpose : Int) (endpoint : ByteArray) (day : Int) (r : Bool) (hg : g_ref19_Covers x' u purpose endpoint day = some r) : Fn Try.prog 25 0 [.agg (api_Exception.dv x'), .agg [.val (.int .i64 u.Alg), .val (.int .i64 u.Bits)], .val (.int .i64 purpose), .val (.string endpoint), .val (.int .i64 day)] [] (fun d' b' => d' = .val (.bool r) ∧ b' = []) := by
 unfold g_ref19_Covers at hg
 refine Fn.of Try.func25 rfl rfl rfl fun w0 I ρ0 => ?_
 show awp _ ⟨w0, I, ρ0, 0, 0, 41⟩ _ _ _
 refine sr_ 0 24 mk_U ?_
 refine go_ ?_
 refine ch_n fun hU => ?_
 refine sr_ 24 272 hU ?_
 refine go_ ?_
 refine c0_ rfl rfl (steq24_eql x'.Use u) rfl rfl ?_
 refine go_ ?_
 rcases bc_ hg with ⟨h2, hg⟩ | ⟨h2, hg⟩
 ·refine go_ ?_
  rcases bc_ hg with ⟨h3, hg⟩ | ⟨h3, hg⟩
  ·refine go_ ?_
   rcases bc_ hg with ⟨h4, hg⟩ | ⟨h4, hg⟩
   ·refine go_ ?_
    rcases bc_ hg with ⟨h5, hg⟩ | ⟨h5, hg⟩
    ·refine go_ ?_
     refine ch_n fun hU => ?_
     refine aw_r ?_
     obtain rfl := Option.some.inj hg
     exact fin_ [] ⟨rfl, rfl⟩
    ·refine go_ ?_
     refine ch_n fun hU => ?_
     refine aw_r ?_
     obtain rfl := Option.some.inj hg
     exact fin_ [] ⟨rfl, rfl⟩
   ·refine go_ ?_
    refine ch_n fun hU => ?_
    refine aw_r ?_
    obtain rfl := Option.some.inj hg
    exact fin_ [] ⟨rfl, rfl⟩
  ·refine go_ ?_
   refine ch_n fun hU => ?_
   refine aw_r ?_
   obtain rfl := Option.some.inj hg
   exact fin_ [] ⟨rfl, rfl⟩
 ·refine go_ ?_
  refine ch_n fun hU => ?_
  refine aw_r ?_
  obtain rfl := Option.some.inj hg
  exact fin_ [] ⟨rfl, rfl⟩
theorem w_law19_ExceptionMade (l : (List Int)) (raw : api_Exception) (key : Int) (r : Bool) (hg : g_law19_ExceptionMade l raw key = some r) : Fn Try.prog 3 0 [.sl 1 (encL eI l), .agg (api_Exception.dv raw), .val (.int .i64 key)] [] (fun d' b' => d' = .val (.bool r) ∧ b' = []) := by
 unfold g_law19_ExceptionMade at hg
 refine Fn.of Try.func3 rfl rfl rfl fun w0 I ρ0 => ?_
 show awp _ ⟨w0, I, ρ0, 0, 0, 170⟩ _ _ _
 refine sr_ 0 16 mk_U ?_
 refine go_ ?_
 refine ch_n fun hU => ?_
 refine awp_seq ?_
 refine awp_cut (ι := Bool) (fun (x36_1 : Bool) => mk [(0, .sl 1 (encL eI l)), (2, .val (.int .i64 key)), (4, .ptr 0 0), (36, .val (.bool x36_1))] [(0, .box (api_Exception.dv raw) 29)] 1) (fun (x36_1 : Bool) => g_law19_ExceptionMade.j1 l raw key x36_1 = some r) ?_ ?_
 ·refine awp_region (sys _ _ []) 16 136 hU rfl rfl ?_
  refine go_ ?_
  obtain ⟨y, hy, hg⟩ := bind_some hg
  refine ca_ (w_make_Light _ _ hy) ?_
  refine go_ ?_
  rcases bc_ hg with ⟨h2, hg⟩ | ⟨h2, hg⟩
  ·refine go_ ?_
   refine ch_n fun hU => ?_
   exact ⟨true, hg, sub_ [(0, 0)]⟩
  ·refine go_ ?_
   rcases bc_ hg with ⟨h4, hg⟩ | ⟨h4, hg⟩
   ·refine go_ ?_
    refine ch_n fun hU => ?_
    exact ⟨true, hg, sub_ [(0, 0)]⟩
   ·refine go_ ?_
    refine c0_ (gdv_t rfl rfl h4) rfl (r_lenT und9) rfl rfl ?_
    refine go_ ?_
    refine ch_n fun hU => ?_
    exact ⟨decide (200 < (raw.Endpoint.size : Int)), hg, sub_ [(0, 0)]⟩
 ·rintro x36_1 hg
  replace hg : g_law19_ExceptionMade.j1 l raw key x36_1 = some r := hg
  show awp _ _ _ _ (mk _ _ _)
  unfold g_law19_ExceptionMade.j1 at hg
  refine cg_ rfl hg (fun h7 hg => ?_) fun h7 hg => ?_
  ·refine awp_seq ?_
   refine awp_region (sys _ _ []) 1 17 mk_U rfl rfl ?_
   obtain ⟨y_2, hy_2, hg⟩ := bind_some hg
   refine ca_ (w_law19_awake _ hy_2) ?_
   refine go_ ?_
   refine ch_n fun hU => ?_
   refine aw_r ?_
   obtain rfl := Option.some.inj hg
   exact fin_ [] ⟨rfl, rfl⟩
  ·refine awp_skip ?_
   repeat first | refine st_ ?_ | refine sn_ ?_
   refine sr_ 1 25 mk_U ?_
   refine go_ ?_
   obtain ⟨y_3, hy_3, hg⟩ := bind_some hg
   refine ch_call (rd := []) (ps := []) (gs := []) false rfl (w_make_Roll _ _ hy_3) rfl rfl (.cons .sl .nil) rfl rfl (by intro h; cases h) rfl (by intro h; first | (cases h; done) | exact ⟨_, _, ⟨rfl, rfl⟩, by simp, by simp⟩) ?_
   rintro _ _ ⟨rfl, rfl⟩
   refine go_ ?_
   refine ch_n fun hU => ?_
   refine sr_ 25 89 hU ?_
   refine go_ ?_
   obtain ⟨y_4, hy_4, hg⟩ := bind_some hg
   refine ch_call (rd := [9]) (ps := [9]) (gs := []) false rfl (w_law19_made _ _ hy_4) rfl rfl (.cons (.ptr rfl) .nil) ⟨_, _, _, rfl, .head _, ⟨_, rfl, (by repeat' (first | exact AgL.nil | apply AgL.cons | exact Ag.val | exact Ag.sl | exact Ag.nils | exact Ag.ptr rfl | exact Ag.rowK rfl))⟩, rfl⟩ rfl (by intro h; cases h) rfl (by intro h; first | (cases h; done) | exact ⟨_, _, ⟨rfl, rfl⟩, by simp, by simp⟩) ?_
   rintro _ _ ⟨rfl, rfl⟩
   refine go_ ?_
   obtain ⟨y_5, hy_5, hg⟩ := bind_some hg
   refine cb_ [9] [9] [] false (w_make_Owners _ _ hy_5) ?_
   refine go_ ?_
   refine ch_n fun hU => ?_
   refine awp_cut (ι := cipherplanmake_Dice × List Int × Int) (fun ((d_2, o_2, o_2_2) : cipherplanmake_Dice × List Int × Int) => mk [(2, .val (.int .i64 key)), (4, .ptr 0 0), (7, .ptr 1 0), (8, .ptr 2 0), (9, .ptr 3 0)] [(0, .box (api_Exception.dv raw) 29), (1, .box [.sl 1 (encL eI d_2.L), .val (.int .i64 d_2.At)] 61), (2, .box [.val (.int .i64 y_4.1.Use.Alg), .val (.int .i64 y_4.1.Use.Bits), .val (.int .i64 y_4.1.Purpose), .val (.string y_4.1.Endpoint), .val (.int .i64 y_4.1.Days.From), .val (.int .i64 y_4.1.Days.To), .row 4] 29), (3, .box [.sl 1 (encL eI o_2), .val (.int .i64 o_2_2)] 36), (4, .row 65 2 (encL api_Seal.enc y_4.1.Seals))] 5) (fun ((d_2, o_2, o_2_2) : cipherplanmake_Dice × List Int × Int) => g_law19_ExceptionMade.j2 raw key y_4 d_2 o_2 o_2_2 = some r) ?_ ?_
   ·refine awp_seq ?_
    refine awp_region (sys _ _ []) 89 105 hU rfl rfl ?_
    refine go_ ?_
    obtain ⟨y_6, hy_6, hg⟩ := bind_some hg
    refine cb_ [9] [9] [] false (w_make_Dice_One _ _ _ hy_6) ?_
    refine ch_n fun hU => ?_
    refine cg_ rfl hg (fun h12 hg => ?_) fun h12 hg => ?_
    ·refine awp_region (sys _ _ [121]) 105 153 hU rfl rfl ?_
     refine c0_ rfl rfl (r_buildFull sl22 z3 (by decide) rfl rfl rfl rfl ck3 (cs := [.int .i64 52, .int .i64 52, .int .i64 51]) (.cons .int (.cons .int (.cons .int .nil))) rfl (l := ([52, 52, 51] : List Int)) (f := eI) rfl) rfl rfl ?_
     refine go_ ?_
     refine ch_z (rd := []) rfl rfl (r_buildFull sl22 z3 (by decide) rfl rfl rfl rfl ck3 (cs := [.int .i64 0, .int .i64 (-1), .int .i64 2]) (.cons .int (.cons .int (.cons .int .nil))) rfl (l := ([0, -1, 2] : List Int)) (f := eI) rfl) rfl rfl rfl ?_
     obtain ⟨y_7, hy_7, hg⟩ := bind_some hg
     refine cb_ [9] [9] [] false (w_make_Dice_Of _ _ _ hy_7) ?_
     refine c0_ rfl rfl (.build (r := [.row 105, .val (.int .i64 y_7.1)]) und36 pl36 z36 (by kernel_rfl) rfl) rfl rfl ?_
     refine go_ ?_
     refine ch_n fun hU => ?_
     exact ⟨(y_7.2, ([52, 52, 51] : List Int), y_7.1), hg, sub_ [(0, 0), (1, 9), (2, 57), (3, 65), (4, 33)]⟩
    ·refine awp_skip ?_
     repeat first | refine st_ ?_ | refine sn_ ?_
     exact ⟨(y_6.2, y_5.1.Keys, y_5.1.Need), hg, sub_ [(0, 0), (1, 9), (2, 57), (3, 65), (4, 33)]⟩
   ·rintro ⟨d_2, o_2, o_2_2⟩ hg
    replace hg : g_law19_ExceptionMade.j2 raw key y_4 d_2 o_2 o_2_2 = some r := hg
    show awp _ _ _ _ (mk _ _ _)
    unfold g_law19_ExceptionMade.j2 at hg
    refine awp_seq ?_
    refine awp_region (sys _ _ [29]) 5 69 mk_U rfl rfl ?_
    refine go_ ?_
    obtain ⟨y_8, hy_8, hg⟩ := bind_some hg
    refine cb_ [1] [1] [] false (w_make_Use _ _ hy_8) ?_
    refine go_ ?_
    refine ch_z (rd := []) rfl rfl (r_buildFull sl22 z3 (by decide) rfl rfl rfl rfl ck3 (cs := [.int .i64 10, .int .i64 0, .int .i64 39, .int .i64 40]) (.cons .int (.cons .int (.cons .int (.cons .int .nil)))) rfl (l := ([10, 0, 39, 40] : List Int)) (f := eI) rfl) rfl rfl rfl ?_
    obtain ⟨y_9, hy_9, hg⟩ := bind_some hg
    refine cb_ [1] [1] [] false (w_make_Dice_Of _ _ _ hy_9) ?_
    refine go_ ?_
    refine ch_n fun hU => ?_
    refine awp_seq ?_
    refine sr_ 69 77 hU ?_
    refine go_ ?_
    refine ch_n fun hU => ?_
    refine awp_block ?_
    refine lp_ (fun ((i_3, d_3, x_3, x_3_2, x_3_3, x_3_4, x_3_5, x_3_6, x_3_7) : Int × cipherplanmake_Dice × Int × Int × Int × ByteArray × Int × Int × List api_Seal) => mk [(2, .val (.int .i64 key)), (4, .ptr 0 0), (7, .ptr 1 0), (8, .ptr 2 0), (9, .ptr 3 0), (10, .ptr 4 0), (11, .val (.int .i64 y_9.1)), (12, .val (.int .i64 i_3))] [(0, .box (api_Exception.dv raw) 29), (1, .box [.sl 1 (encL eI d_3.L), .val (.int .i64 d_3.At)] 61), (2, .box [.val (.int .i64 x_3), .val (.int .i64 x_3_2), .val (.int .i64 x_3_3), .val (.string x_3_4), .val (.int .i64 x_3_5), .val (.int .i64 x_3_6), .sl 2 (encL api_Seal.enc x_3_7)] 29), (3, .box [.sl 1 (encL eI o_2), .val (.int .i64 o_2_2)] 36), (4, .box [.val (.int .i64 y_8.1.Alg), .val (.int .i64 y_8.1.Bits)] 24)] 5) hg (sub_ [(0, 0), (1, 1), (2, 2), (3, 3), (4, 45)]) ?_
    rintro ⟨i_3, d_3, x_3, x_3_2, x_3_3, x_3_4, x_3_5, x_3_6, x_3_7⟩ m3 o3 hg hn3
    replace hg : g_law19_ExceptionMade.l3 raw key o_2 o_2_2 y_8 y_9 i_3 d_3 x_3 x_3_2 x_3_3 x_3_4 x_3_5 x_3_6 x_3_7 = some o3 := hg
    show awp _ _ _ _ (mk _ _ _)
    unfold g_law19_ExceptionMade.l3 at hg
    refine awp_seq ?_
    refine sr_ 5 21 mk_U ?_
    refine go_ ?_
    refine ch_n fun hU => ?_
    refine cg_ rfl hg (fun h17 hg => ?_) fun h17 hg => ?_
    ·refine awp_skip ?_
     repeat first | refine st_ ?_ | refine sn_ ?_
     refine awp_seq ?_
     refine awp_block ?_
     refine sr_ 21 77 hU ?_
     refine go_ ?_
     obtain ⟨y_10, hy_10, hg⟩ := bind_some hg
     refine ca_ (w_exception_Bytes _ _ hy_10) ?_
     refine go_ ?_
     refine ch_n fun hU => ?_
     refine sr_ 77 133 hU ?_
     refine go_ ?_
     obtain ⟨y_11, hy_11, hg⟩ := bind_some hg
     refine ca_ (w_ref19_Bytes _ _ hy_11) ?_
     refine go_ ?_
     refine ch_n fun hU => ?_
     refine sr_ 133 205 hU ?_
     refine go_ ?_
     obtain ⟨y_12, hy_12, hg⟩ := bind_some hg
     refine cb_ [1] [1] [] false (w_make_Dice_Next _ _ _ hy_12) ?_
     refine go_ ?_
     refine c0_ rfl rfl (r_buildFull sl22 z3 (by decide) rfl rfl rfl rfl ck3 (cs := [.int .i64 (W (50 + y_12.1)), .int .i64 key]) (.cons .int (.cons .int .nil)) rfl (l := ([W (50 + y_12.1), key] : List Int)) (f := eI) rfl) rfl rfl ?_
     refine go_ ?_
     obtain ⟨e, he, hg⟩ := bind_some hg
     refine go_ ?_
     refine ch_s (rd := [165]) rfl rfl (.loadR1 ty3 (enc_cell eI_len (getI_at he) (o := 0) (c := .int .i64 e) rfl rfl)) rfl rfl ?_
     refine go_ ?_
     refine ch_n fun hU => ?_
     refine sr_ 205 277 hU ?_
     refine go_ ?_
     obtain ⟨y_13, hy_13, hg⟩ := bind_some hg
     refine ca_ (w_exception_Sign _ _ _ hy_13) ?_
     refine go_ ?_
     refine ch_n fun hU => ?_
     refine sr_ 277 349 hU ?_
     refine go_ ?_
     obtain ⟨y_14, hy_14, hg⟩ := bind_some hg
     refine ch_call (rd := []) (ps := []) (gs := []) false rfl (w_ref19_Sign _ _ _ hy_14) rfl rfl (.cons (.agg (.cons .val (.cons .val (.cons .val (.cons .val (.cons .val (.cons .val (.cons .sl .nil)))))))) (.cons .val .nil)) rfl rfl (by intro h; cases h) rfl (by intro h; first | (cases h; done) | exact ⟨_, _, ⟨rfl, rfl⟩, by simp, by simp⟩) ?_
     rintro _ _ ⟨rfl, rfl⟩
     refine go_ ?_
     refine ch_n fun hU => ?_
     refine awp_seq ?_
     refine awp_cut (ι := Bool) (fun (x167_4 : Bool) => mk [(2, .val (.int .i64 key)), (4, .ptr 0 0), (7, .ptr 1 0), (8, .ptr 2 0), (9, .ptr 3 0), (10, .ptr 4 0), (11, .val (.int .i64 y_9.1)), (12, .val (.int .i64 i_3)), (167, .val (.bool x167_4))] [(0, .box (api_Exception.dv raw) 29), (1, .box [.sl 1 (encL eI y_12.2.L), .val (.int .i64 y_12.2.At)] 61), (2, .box [.val (.int .i64 x_3), .val (.int .i64 x_3_2), .val (.int .i64 x_3_3), .val (.string x_3_4), .val (.int .i64 x_3_5), .val (.int .i64 x_3_6), .sl 2 (encL api_Seal.enc x_3_7)] 29), (3, .box [.sl 1 (encL eI o_2), .val (.int .i64 o_2_2)] 36), (4, .box [.val (.int .i64 y_8.1.Alg), .val (.int .i64 y_8.1.Bits)] 24)] 5) (fun (x167_4 : Bool) => g_law19_ExceptionMade.j4 raw i_3 y_12 x167_4 = some o3) ?_ ?_
     ·refine awp_draw (sys _ _ []) (by kernel_rfl) [0, 1, 0, 7, 15, 31, 63, 63, 255, 511, 1023, 2047, 4095, 2047, 10239, 32767, 65535, 131071, 262143, 262143, 1048575, 2097151, 4194303, 8388607, 8388607, 33554431, 67108863, 134217727, 268435455, 536870911, 536870911, 2147483647, 536870911, 536870911, 17179869183, 34359738367, 68719476735, 137438953471, 274877906943, 274877906943, 1099511627775, 274877906943, 274877906943, 8796093022207, 17592186044415, 35184372088831, 70368744177663, 140737488355327, 140737488355327, 140737488355327, 1125899906842623, 140737488355327, 140737488355327, 140737488355327, 18014398509481983, 36028797018963967, 72057594037927935, 144115188075855871, 288230376151711743, 288230376151711743, 864691128455135231, 288230376151711743, 2594073385365405695, 288230376151711743, 9511602413006487551, 288230376151711743, 73786976294838206463, 288230376151711743, 288230376151711743, 295436135555504537599, 288230376151711743, 1180879851093563015167, 288230376151711743, 4722654713245796925439, 288230376151711743, 37778931862957161709567, 75557863725914323419135, 151115727451828646838271] 349 973 hU rfl rfl (by kernel_rfl) ?_
      refine go_ ?_
      obtain ⟨y_15, hy_15, hg⟩ := bind_some hg
      refine ca_ (w_exception_Check _ _ hy_15) ?_
      refine go_ ?_
      obtain ⟨y_16, hy_16, hg⟩ := bind_some hg
      refine ca_ (w_ref19_Check _ _ hy_16) ?_
      refine go_ ?_
      rcases bc_ hg with ⟨h23, hg⟩ | ⟨h23, hg⟩
      ·refine go_ ?_
       refine ch_n fun hU => ?_
       exact ⟨true, hg, sub_ [(0, 0), (1, 1), (2, 2), (3, 3), (4, 4)]⟩
      ·refine go_ ?_
       rcases bc_ hg with ⟨h25, hg⟩ | ⟨h25, hg⟩
       ·refine go_ ?_
        refine ch_n fun hU => ?_
        exact ⟨true, hg, sub_ [(0, 0), (1, 1), (2, 2), (3, 3), (4, 4)]⟩
       ·refine go_ ?_
        refine c0_ (gdv_t rfl rfl h25) rfl (r_convS und41 und5 und9 .sl rfl) rfl rfl ?_
        refine go_ ?_
        refine c0_ (gdv_t rfl rfl h25) rfl (r_convS und41 und5 und9 .sl rfl) rfl rfl ?_
        refine go_ ?_
        rcases bc_ hg with ⟨h27, hg⟩ | ⟨h27, hg⟩
        ·refine go_ ?_
         refine ch_n fun hU => ?_
         exact ⟨true, hg, sub_ [(0, 0), (1, 1), (2, 2), (3, 3), (4, 4)]⟩
        ·refine go_ ?_
         rcases bc_ hg with ⟨h29, hg⟩ | ⟨h29, hg⟩
         ·refine go_ ?_
          refine ch_n fun hU => ?_
          exact ⟨true, hg, sub_ [(0, 0), (1, 1), (2, 2), (3, 3), (4, 4)]⟩
         ·refine go_ ?_
          obtain ⟨y_17, hy_17, hg⟩ := bind_some hg
          refine cb_ [293] [] [] true (w_ref19_Same _ _ _ hy_17) ?_
          refine go_ ?_
          rcases bc_ hg with ⟨h31, hg⟩ | ⟨h31, hg⟩
          ·refine go_ ?_
           refine ch_n fun hU => ?_
           exact ⟨true, hg, sub_ [(0, 0), (1, 1), (2, 2), (3, 3), (4, 4)]⟩
          ·refine go_ ?_
           obtain ⟨y_18, hy_18, hg⟩ := bind_some hg
           refine ca_ (w_exception_Valid _ _ _ hy_18) ?_
           refine go_ ?_
           obtain ⟨y_19, hy_19, hg⟩ := bind_some hg
           refine ca_ (w_ref19_Valid _ _ _ hy_19) ?_
           refine c0_ (gdv_t rfl rfl h31) rfl (r_bneq und4) rfl rfl ?_
           refine go_ ?_
           rcases bc_ hg with ⟨h33, hg⟩ | ⟨h33, hg⟩
           ·refine go_ ?_
            refine ch_n fun hU => ?_
            exact ⟨true, hg, sub_ [(0, 0), (1, 1), (2, 2), (3, 3), (4, 4)]⟩
           ·refine go_ ?_
            obtain ⟨y_20, hy_20, hg⟩ := bind_some hg
            refine ca_ (w_exception_Valid _ _ _ hy_20) ?_
            refine go_ ?_
            obtain ⟨y_21, hy_21, hg⟩ := bind_some hg
            refine cb_ [293] [] [] true (w_ref19_Valid _ _ _ hy_21) ?_
            refine c0_ (gdv_t rfl rfl h33) rfl (r_bneq und4) rfl rfl ?_
            refine go_ ?_
            rcases bc_ hg with ⟨h35, hg⟩ | ⟨h35, hg⟩
            ·refine go_ ?_
             refine ch_n fun hU => ?_
             exact ⟨true, hg, sub_ [(0, 0), (1, 1), (2, 2), (3, 3), (4, 4)]⟩
            ·refine go_ ?_
             obtain ⟨y_22, hy_22, hg⟩ := bind_some hg
             refine ca_ (w_exception_Covers _ _ _ _ _ _ hy_22) ?_
             refine go_ ?_
             obtain ⟨y_23, hy_23, hg⟩ := bind_some hg
             refine ca_ (w_ref19_Covers _ _ _ _ _ _ hy_23) ?_
             refine c0_ (gdv_t rfl rfl h35) rfl (r_bneq und4) rfl rfl ?_
             refine go_ ?_
             rcases bc_ hg with ⟨h37, hg⟩ | ⟨h37, hg⟩
             ·refine go_ ?_
              refine ch_n fun hU => ?_
              exact ⟨true, hg, sub_ [(0, 0), (1, 1), (2, 2), (3, 3), (4, 4)]⟩
             ·refine go_ ?_
              obtain ⟨y_24, hy_24, hg⟩ := bind_some hg
              refine ca_ (w_exception_Covers _ _ _ _ _ _ hy_24) ?_
              refine go_ ?_
              obtain ⟨y_25, hy_25, hg⟩ := bind_some hg
              refine ca_ (w_ref19_Covers _ _ _ _ _ _ hy_25) ?_
              refine c0_ (gdv_t rfl rfl h37) rfl (r_bneq und4) rfl rfl ?_
              refine go_ ?_
              refine ch_n fun hU => ?_
              exact ⟨!decide (y_24 = y_25), hg, sub_ [(0, 0), (1, 1), (2, 2), (3, 3), (4, 4)]⟩
     ·rintro x167_4 hg
      replace hg : g_law19_ExceptionMade.j4 raw i_3 y_12 x167_4 = some o3 := hg
      show awp _ _ _ _ (mk _ _ _)
      unfold g_law19_ExceptionMade.j4 at hg
      refine cg_ rfl hg (fun h40 hg => ?_) fun h40 hg => ?_
      ·refine awp_seq ?_
       refine awp_region (sys _ _ []) 5 13 mk_U rfl rfl ?_
       refine go_ ?_
       refine ch_n fun hU => ?_
       refine aw_r ?_
       replace hg := leave hg hn3
       obtain rfl := Option.some.inj hg
       exact fin_ [] ⟨rfl, rfl⟩
      ·refine awp_skip ?_
       repeat first | refine st_ ?_ | refine sn_ ?_
       refine awp_region (sys _ _ []) 5 21 mk_U rfl rfl ?_
       refine go_ ?_
       refine ch_n fun hU => ?_
       refine awp_region (sys _ _ []) 21 45 hU rfl rfl ?_
       refine go_ ?_
       refine ch_n fun hU => ?_
       obtain rfl := Option.some.inj hg
       exact ⟨((W (i_3 + 1), y_12.2, raw.Use.Alg, raw.Use.Bits, raw.Purpose, raw.Endpoint, raw.Days.From, raw.Days.To, raw.Seals), m3), Nat.lt_succ_self _, hn3, sub_ [(0, 0), (1, 1), (2, 2), (3, 3), (4, 4)]⟩
    ·refine awp_exit ?_
     repeat first | refine st_ ?_ | refine sn_ ?_
     replace hg := leave hg hn3
     refine sr_ 21 37 hU ?_
     obtain ⟨y_26, hy_26, hg⟩ := bind_some hg
     refine ca_ (w_law19_awake _ hy_26) ?_
     refine go_ ?_
     refine ch_n fun hU => ?_
     refine aw_r ?_
     obtain rfl := Option.some.inj hg
     exact fin_ [] ⟨rfl, rfl⟩
end Go.Proofs.Ytmihjbejflcgkaa
