/- The program computes the plain functions. -/
import Derived.Test.YtbeageaekgccgaaT1
import Derived.Test.YtbeageaekgccgaaA4
set_option linter.unusedVariables false
set_option linter.unusedSimpArgs false
set_option maxRecDepth 100000
set_option maxHeartbeats 1600000
namespace Go.Proofs.Ytbeageaekgccgaa
open Go.RowKit
theorem w_ref02_Valid (u : api_Use) (r : Bool) (hg : g_ref02_Valid u = some r) : Fn Try.prog 58 0 [.agg [.val (.int .i64 u.Alg), .val (.int .i64 u.Bits)]] [] (fun d' b' => d' = .val (.bool r) ∧ b' = []) := by
 unfold g_ref02_Valid at hg
 refine Fn.of Try.func58 rfl rfl rfl fun w0 I ρ0 => ?_
 show awp _ ⟨w0, I, ρ0, 0, 0, 6⟩ _ _ _
 refine sr_ 0 16 mk_U ?_
 refine go_ ?_
 refine ch_n fun hU => ?_
 refine sr_ 16 48 hU ?_
 refine go_ ?_
 obtain ⟨y, hy, hg⟩ := bind_some hg
 refine ca_ (w_ref02_Strength _ _ hy) ?_
 refine go_ ?_
 refine ch_n fun hU => ?_
 refine aw_r ?_
 obtain rfl := Option.some.inj hg
 exact fin_ [] ⟨rfl, rfl⟩
theorem w_ref02_rows  (r : (List cipherplanref02_row)) (hg : g_ref02_rows = some r) : Fn Try.prog 77 0 [] [] (fun d' b' => d' = .sl 2 (encL cipherplanref02_row.enc r) ∧ b' = []) := by
 unfold g_ref02_rows at hg
 refine Fn.of Try.func77 rfl rfl rfl fun w0 I ρ0 => ?_
 show awp _ ⟨w0, I, ρ0, 0, 0, 25⟩ _ _ _
 refine sr_ 0 8 mk_U ?_
 refine go_ ?_
 refine ch_n fun hU => ?_
 refine sr_ 8 208 hU ?_
 refine c0_ rfl rfl (.build (r := [.val (.string (⟨#[]⟩ : ByteArray)), .val (.int .i64 0)]) und107 pl107 z107 (by kernel_rfl) rfl) rfl rfl ?_
 refine c0_ rfl rfl (.build (r := [.val (.string (⟨#[109, 100, 53]⟩ : ByteArray)), .val (.int .i64 1)]) und107 pl107 z107 (by kernel_rfl) rfl) rfl rfl ?_
 refine c0_ rfl rfl (.build (r := [.val (.string (⟨#[115, 104, 97, 49]⟩ : ByteArray)), .val (.int .i64 1)]) und107 pl107 z107 (by kernel_rfl) rfl) rfl rfl ?_
 refine c0_ rfl rfl (.build (r := [.val (.string (⟨#[115, 104, 97, 50, 53, 54]⟩ : ByteArray)), .val (.int .i64 1)]) und107 pl107 z107 (by kernel_rfl) rfl) rfl rfl ?_
 refine c0_ rfl rfl (.build (r := [.val (.string (⟨#[115, 104, 97, 51, 56, 52]⟩ : ByteArray)), .val (.int .i64 1)]) und107 pl107 z107 (by kernel_rfl) rfl) rfl rfl ?_
 refine c0_ rfl rfl (.build (r := [.val (.string (⟨#[114, 115, 97]⟩ : ByteArray)), .val (.int .i64 2)]) und107 pl107 z107 (by kernel_rfl) rfl) rfl rfl ?_
 refine c0_ rfl rfl (.build (r := [.val (.string (⟨#[100, 115, 97]⟩ : ByteArray)), .val (.int .i64 2)]) und107 pl107 z107 (by kernel_rfl) rfl) rfl rfl ?_
 refine c0_ rfl rfl (.build (r := [.val (.string (⟨#[101, 99, 100, 115, 97]⟩ : ByteArray)), .val (.int .i64 2)]) und107 pl107 z107 (by kernel_rfl) rfl) rfl rfl ?_
 refine c0_ rfl rfl (.build (r := [.val (.string (⟨#[101, 100, 50, 53, 53, 49, 57]⟩ : ByteArray)), .val (.int .i64 2)]) und107 pl107 z107 (by kernel_rfl) rfl) rfl rfl ?_
 refine c0_ rfl rfl (.build (r := [.val (.string (⟨#[109, 108, 100, 115, 97]⟩ : ByteArray)), .val (.int .i64 2)]) und107 pl107 z107 (by kernel_rfl) rfl) rfl rfl ?_
 refine c0_ rfl rfl (.build (r := [.val (.string (⟨#[114, 115, 97, 107, 120]⟩ : ByteArray)), .val (.int .i64 3)]) und107 pl107 z107 (by kernel_rfl) rfl) rfl rfl ?_
 refine c0_ rfl rfl (.build (r := [.val (.string (⟨#[100, 104, 101]⟩ : ByteArray)), .val (.int .i64 3)]) und107 pl107 z107 (by kernel_rfl) rfl) rfl rfl ?_
 refine c0_ rfl rfl (.build (r := [.val (.string (⟨#[101, 99, 100, 104, 101]⟩ : ByteArray)), .val (.int .i64 3)]) und107 pl107 z107 (by kernel_rfl) rfl) rfl rfl ?_
 refine c0_ rfl rfl (.build (r := [.val (.string (⟨#[109, 108, 107, 101, 109]⟩ : ByteArray)), .val (.int .i64 3)]) und107 pl107 z107 (by kernel_rfl) rfl) rfl rfl ?_
 refine c0_ rfl rfl (.build (r := [.val (.string (⟨#[114, 99, 52]⟩ : ByteArray)), .val (.int .i64 4)]) und107 pl107 z107 (by kernel_rfl) rfl) rfl rfl ?_
 refine c0_ rfl rfl (.build (r := [.val (.string (⟨#[100, 101, 115, 51]⟩ : ByteArray)), .val (.int .i64 4)]) und107 pl107 z107 (by kernel_rfl) rfl) rfl rfl ?_
 refine c0_ rfl rfl (.build (r := [.val (.string (⟨#[97, 101, 115, 99, 98, 99]⟩ : ByteArray)), .val (.int .i64 4)]) und107 pl107 z107 (by kernel_rfl) rfl) rfl rfl ?_
 refine c0_ rfl rfl (.build (r := [.val (.string (⟨#[97, 101, 115, 103, 99, 109]⟩ : ByteArray)), .val (.int .i64 4)]) und107 pl107 z107 (by kernel_rfl) rfl) rfl rfl ?_
 refine c0_ rfl rfl (.build (r := [.val (.string (⟨#[99, 104, 97, 99, 104, 97]⟩ : ByteArray)), .val (.int .i64 4)]) und107 pl107 z107 (by kernel_rfl) rfl) rfl rfl ?_
 refine c0_ rfl rfl (.build (r := [.val (.string (⟨#[104, 109, 97, 99, 109, 100, 53]⟩ : ByteArray)), .val (.int .i64 5)]) und107 pl107 z107 (by kernel_rfl) rfl) rfl rfl ?_
 refine c0_ rfl rfl (.build (r := [.val (.string (⟨#[104, 109, 97, 99, 115, 104, 97, 49]⟩ : ByteArray)), .val (.int .i64 5)]) und107 pl107 z107 (by kernel_rfl) rfl) rfl rfl ?_
 refine c0_ rfl rfl (.build (r := [.val (.string (⟨#[104, 109, 97, 99, 115, 104, 97, 50, 53, 54]⟩ : ByteArray)), .val (.int .i64 5)]) und107 pl107 z107 (by kernel_rfl) rfl) rfl rfl ?_
 refine c0_ rfl rfl (.build (r := [.val (.string (⟨#[97, 101, 97, 100]⟩ : ByteArray)), .val (.int .i64 5)]) und107 pl107 z107 (by kernel_rfl) rfl) rfl rfl ?_
 refine c0_ rfl rfl (r_buildFull sl108 z107 (by decide) rfl rfl rfl rfl ck107 (cs := [.str (⟨#[]⟩ : ByteArray), .int .i64 0, .str (⟨#[109, 100, 53]⟩ : ByteArray), .int .i64 1, .str (⟨#[115, 104, 97, 49]⟩ : ByteArray), .int .i64 1, .str (⟨#[115, 104, 97, 50, 53, 54]⟩ : ByteArray), .int .i64 1, .str (⟨#[115, 104, 97, 51, 56, 52]⟩ : ByteArray), .int .i64 1, .str (⟨#[114, 115, 97]⟩ : ByteArray), .int .i64 2, .str (⟨#[100, 115, 97]⟩ : ByteArray), .int .i64 2, .str (⟨#[101, 99, 100, 115, 97]⟩ : ByteArray), .int .i64 2, .str (⟨#[101, 100, 50, 53, 53, 49, 57]⟩ : ByteArray), .int .i64 2, .str (⟨#[109, 108, 100, 115, 97]⟩ : ByteArray), .int .i64 2, .str (⟨#[114, 115, 97, 107, 120]⟩ : ByteArray), .int .i64 3, .str (⟨#[100, 104, 101]⟩ : ByteArray), .int .i64 3, .str (⟨#[101, 99, 100, 104, 101]⟩ : ByteArray), .int .i64 3, .str (⟨#[109, 108, 107, 101, 109]⟩ : ByteArray), .int .i64 3, .str (⟨#[114, 99, 52]⟩ : ByteArray), .int .i64 4, .str (⟨#[100, 101, 115, 51]⟩ : ByteArray), .int .i64 4, .str (⟨#[97, 101, 115, 99, 98, 99]⟩ : ByteArray), .int .i64 4, .str (⟨#[97, 101, 115, 103, 99, 109]⟩ : ByteArray), .int .i64 4, .str (⟨#[99, 104, 97, 99, 104, 97]⟩ : ByteArray), .int .i64 4, .str (⟨#[104, 109, 97, 99, 109, 100, 53]⟩ : ByteArray), .int .i64 5, .str (⟨#[104, 109, 97, 99, 115, 104, 97, 49]⟩ : ByteArray), .int .i64 5, .str (⟨#[104, 109, 97, 99, 115, 104, 97, 50, 53, 54]⟩ : ByteArray), .int .i64 5, .str (⟨#[97, 101, 97, 100]⟩ : ByteArray), .int .i64 5]) (.cons .str (.cons .int (.cons .str (.cons .int (.cons .str (.cons .int (.cons .str (.cons .int (.cons .str (.cons .int (.cons .str (.cons .int (.cons .str (.cons .int (.cons .str (.cons .int (.cons .str (.cons .int (.cons .str (.cons .int (.cons .str (.cons .int (.cons .str (.cons .int (.cons .str (.cons .int (.cons .str (.cons .int (.cons .str (.cons .int (.cons .str (.cons .int (.cons .str (.cons .int (.cons .str (.cons .int (.cons .str (.cons .int (.cons .str (.cons .int (.cons .str (.cons .int (.cons .str (.cons .int (.cons .str (.cons .int .nil)))))))))))))))))))))))))))))))))))))))))))))) rfl (l := ([(cipherplanref02_row.mk (⟨#[]⟩ : ByteArray) 0), (cipherplanref02_row.mk (⟨#[109, 100, 53]⟩ : ByteArray) 1), (cipherplanref02_row.mk (⟨#[115, 104, 97, 49]⟩ : ByteArray) 1), (cipherplanref02_row.mk (⟨#[115, 104, 97, 50, 53, 54]⟩ : ByteArray) 1), (cipherplanref02_row.mk (⟨#[115, 104, 97, 51, 56, 52]⟩ : ByteArray) 1), (cipherplanref02_row.mk (⟨#[114, 115, 97]⟩ : ByteArray) 2), (cipherplanref02_row.mk (⟨#[100, 115, 97]⟩ : ByteArray) 2), (cipherplanref02_row.mk (⟨#[101, 99, 100, 115, 97]⟩ : ByteArray) 2), (cipherplanref02_row.mk (⟨#[101, 100, 50, 53, 53, 49, 57]⟩ : ByteArray) 2), (cipherplanref02_row.mk (⟨#[109, 108, 100, 115, 97]⟩ : ByteArray) 2), (cipherplanref02_row.mk (⟨#[114, 115, 97, 107, 120]⟩ : ByteArray) 3), (cipherplanref02_row.mk (⟨#[100, 104, 101]⟩ : ByteArray) 3), (cipherplanref02_row.mk (⟨#[101, 99, 100, 104, 101]⟩ : ByteArray) 3), (cipherplanref02_row.mk (⟨#[109, 108, 107, 101, 109]⟩ : ByteArray) 3), (cipherplanref02_row.mk (⟨#[114, 99, 52]⟩ : ByteArray) 4), (cipherplanref02_row.mk (⟨#[100, 101, 115, 51]⟩ : ByteArray) 4), (cipherplanref02_row.mk (⟨#[97, 101, 115, 99, 98, 99]⟩ : ByteArray) 4), (cipherplanref02_row.mk (⟨#[97, 101, 115, 103, 99, 109]⟩ : ByteArray) 4), (cipherplanref02_row.mk (⟨#[99, 104, 97, 99, 104, 97]⟩ : ByteArray) 4), (cipherplanref02_row.mk (⟨#[104, 109, 97, 99, 109, 100, 53]⟩ : ByteArray) 5), (cipherplanref02_row.mk (⟨#[104, 109, 97, 99, 115, 104, 97, 49]⟩ : ByteArray) 5), (cipherplanref02_row.mk (⟨#[104, 109, 97, 99, 115, 104, 97, 50, 53, 54]⟩ : ByteArray) 5), (cipherplanref02_row.mk (⟨#[97, 101, 97, 100]⟩ : ByteArray) 5)] : List cipherplanref02_row)) (f := cipherplanref02_row.enc) rfl) rfl rfl ?_
 refine go_ ?_
 refine ch_n fun hU => ?_
 refine aw_r ?_
 obtain rfl := Option.some.inj hg
 exact fin_ [] ⟨rfl, rfl⟩
theorem w_ref02_Kind (alg : Int) (r : Int) (hg : g_ref02_Kind alg = some r) : Fn Try.prog 59 0 [.val (.int .i64 alg)] [] (fun d' b' => d' = .val (.int .i64 r) ∧ b' = []) := by
 unfold g_ref02_Kind at hg
 refine Fn.of Try.func59 rfl rfl rfl fun w0 I ρ0 => ?_
 show awp _ ⟨w0, I, ρ0, 0, 0, 14⟩ _ _ _
 refine sr_ 0 8 mk_U ?_
 refine go_ ?_
 refine ch_n fun hU => ?_
 refine awp_seq ?_
 refine awp_cut (ι := Bool) (fun (x8_1 : Bool) => mk [(0, .val (.int .i64 alg)), (8, .val (.bool x8_1))] [] 0) (fun (x8_1 : Bool) => g_ref02_Kind.j1 alg x8_1 = some r) ?_ ?_
 ·refine awp_region (sys _ _ []) 8 56 hU rfl rfl ?_
  refine go_ ?_
  rcases bc_ hg with ⟨h2, hg⟩ | ⟨h2, hg⟩
  ·refine go_ ?_
   refine ch_n fun hU => ?_
   exact ⟨true, hg, sub_ []⟩
  ·refine go_ ?_
   refine ch_n fun hU => ?_
   exact ⟨decide (22 < alg), hg, sub_ []⟩
 ·rintro x8_1 hg
  replace hg : g_ref02_Kind.j1 alg x8_1 = some r := hg
  show awp _ _ _ _ (mk _ _ _)
  unfold g_ref02_Kind.j1 at hg
  refine cg_ rfl hg (fun h5 hg => ?_) fun h5 hg => ?_
  ·refine awp_seq ?_
   refine awp_region (sys _ _ []) 0 8 mk_U rfl rfl ?_
   refine go_ ?_
   refine ch_n fun hU => ?_
   refine aw_r ?_
   obtain rfl := Option.some.inj hg
   exact fin_ [] ⟨rfl, rfl⟩
  ·refine awp_skip ?_
   repeat first | refine st_ ?_ | refine sn_ ?_
   refine sr_ 0 48 mk_U ?_
   obtain ⟨y, hy, hg⟩ := bind_some hg
   refine ca_ (w_ref02_rows _ hy) ?_
   refine go_ ?_
   obtain ⟨e, he, hg⟩ := bind_some hg
   refine go_ ?_
   refine c0_ rfl rfl (r_fieldE fd107_1 ty3 (by decide) (enc_lt cipherplanref02_row.enc_len (getI_at he) (o := 1) (by decide) rfl)) rfl rfl ?_
   refine c0_ rfl rfl (r_loadE1 ty3 (enc_cell cipherplanref02_row.enc_len (getI_at he) (o := 1) (c := .int .i64 e.kind) rfl rfl)) rfl rfl ?_
   refine go_ ?_
   refine ch_n fun hU => ?_
   refine aw_r ?_
   obtain rfl := Option.some.inj hg
   exact fin_ [] ⟨rfl, rfl⟩
theorem w_ref03_Signature (u : api_Use) (r : Bool) (hg : g_ref03_Signature u = some r) : Fn Try.prog 36 0 [.agg [.val (.int .i64 u.Alg), .val (.int .i64 u.Bits)]] [] (fun d' b' => d' = .val (.bool r) ∧ b' = []) := by
 unfold g_ref03_Signature at hg
 refine Fn.of Try.func36 rfl rfl rfl fun w0 I ρ0 => ?_
 show awp _ ⟨w0, I, ρ0, 0, 0, 11⟩ _ _ _
 refine sr_ 0 16 mk_U ?_
 refine go_ ?_
 refine ch_n fun hU => ?_
 refine sr_ 16 88 hU ?_
 refine go_ ?_
 obtain ⟨y, hy, hg⟩ := bind_some hg
 refine ca_ (w_ref02_Valid _ _ hy) ?_
 refine go_ ?_
 rcases bc_ hg with ⟨h2, hg⟩ | ⟨h2, hg⟩
 ·refine go_ ?_
  obtain ⟨y_2, hy_2, hg⟩ := bind_some hg
  refine ca_ (w_ref02_Kind _ _ hy_2) ?_
  refine go_ ?_
  refine ch_n fun hU => ?_
  refine aw_r ?_
  obtain rfl := Option.some.inj hg
  exact fin_ [] ⟨rfl, rfl⟩
 ·refine go_ ?_
  refine ch_n fun hU => ?_
  refine aw_r ?_
  obtain rfl := Option.some.inj hg
  exact fin_ [] ⟨rfl, rfl⟩
theorem w_ref03_Check (c : api_Certificate) (r : Int) (hg : g_ref03_Check c = some r) : Fn Try.prog 37 0 [.agg (api_Certificate.dv c)] [] (fun d' b' => d' = .val (.int .i64 r) ∧ b' = []) := by
 unfold g_ref03_Check at hg
 refine Fn.of Try.func37 rfl rfl rfl fun w0 I ρ0 => ?_
 show awp _ ⟨w0, I, ρ0, 0, 0, 146⟩ _ _ _
 refine sr_ 0 16 mk_U ?_
 refine go_ ?_
 refine ch_n fun hU => ?_
 refine awp_seq ?_
 refine awp_cut (ι := Bool) (fun (x39_1 : Bool) => mk [(1, .ptr 0 0), (39, .val (.bool x39_1))] [(0, .box (api_Certificate.dv c) 64)] 1) (fun (x39_1 : Bool) => g_ref03_Check.j1 c x39_1 = some r) ?_ ?_
 ·refine awp_region (sys _ _ []) 16 304 hU rfl rfl ?_
  refine go_ ?_
  rcases bc_ hg with ⟨h2, hg⟩ | ⟨h2, hg⟩
  ·refine go_ ?_
   refine ch_n fun hU => ?_
   exact ⟨true, hg, sub_ [(0, 0)]⟩
  ·refine go_ ?_
   rcases bc_ hg with ⟨h4, hg⟩ | ⟨h4, hg⟩
   ·refine go_ ?_
    refine ch_n fun hU => ?_
    exact ⟨true, hg, sub_ [(0, 0)]⟩
   ·refine go_ ?_
    obtain ⟨y, hy, hg⟩ := bind_some hg
    refine ca_ (w_ref03_Name _ _ hy) ?_
    refine go_ ?_
    rcases bc_ hg with ⟨h6, hg⟩ | ⟨h6, hg⟩
    ·refine go_ ?_
     refine ch_n fun hU => ?_
     exact ⟨true, hg, sub_ [(0, 0)]⟩
    ·refine go_ ?_
     obtain ⟨y_2, hy_2, hg⟩ := bind_some hg
     refine ca_ (w_ref03_Name _ _ hy_2) ?_
     refine go_ ?_
     rcases bc_ hg with ⟨h8, hg⟩ | ⟨h8, hg⟩
     ·refine go_ ?_
      refine ch_n fun hU => ?_
      exact ⟨true, hg, sub_ [(0, 0)]⟩
     ·refine go_ ?_
      obtain ⟨y_3, hy_3, hg⟩ := bind_some hg
      refine ca_ (w_ref03_Signature _ _ hy_3) ?_
      refine go_ ?_
      rcases bc_ hg with ⟨h10, hg⟩ | ⟨h10, hg⟩
      ·refine go_ ?_
       refine ch_n fun hU => ?_
       exact ⟨true, hg, sub_ [(0, 0)]⟩
      ·refine go_ ?_
       rcases bc_ hg with ⟨h12, hg⟩ | ⟨h12, hg⟩
       ·refine go_ ?_
        refine ch_n fun hU => ?_
        exact ⟨true, hg, sub_ [(0, 0)]⟩
       ·refine go_ ?_
        refine ch_n fun hU => ?_
        exact ⟨decide (2147483648 < c.KeyId), hg, sub_ [(0, 0)]⟩
 ·rintro x39_1 hg
  replace hg : g_ref03_Check.j1 c x39_1 = some r := hg
  show awp _ _ _ _ (mk _ _ _)
  unfold g_ref03_Check.j1 at hg
  refine cg_ rfl hg (fun h15 hg => ?_) fun h15 hg => ?_
  ·refine awp_seq ?_
   refine awp_region (sys _ _ []) 1 9 mk_U rfl rfl ?_
   refine go_ ?_
   refine ch_n fun hU => ?_
   refine aw_r ?_
   obtain rfl := Option.some.inj hg
   exact fin_ [] ⟨rfl, rfl⟩
  ·refine awp_skip ?_
   repeat first | refine st_ ?_ | refine sn_ ?_
   refine awp_seq ?_
   refine awp_cut (ι := Bool) (fun (x67_2 : Bool) => mk [(1, .ptr 0 0), (67, .val (.bool x67_2))] [(0, .box (api_Certificate.dv c) 64)] 1) (fun (x67_2 : Bool) => g_ref03_Check.j2 c x67_2 = some r) ?_ ?_
   ·refine awp_region (sys _ _ []) 1 225 mk_U rfl rfl ?_
    refine go_ ?_
    obtain ⟨y_4, hy_4, hg⟩ := bind_some hg
    refine ca_ (w_ref02_Valid _ _ hy_4) ?_
    refine go_ ?_
    rcases bc_ hg with ⟨h17, hg⟩ | ⟨h17, hg⟩
    ·refine go_ ?_
     refine ch_n fun hU => ?_
     exact ⟨true, hg, sub_ [(0, 0)]⟩
    ·refine go_ ?_
     obtain ⟨y_5, hy_5, hg⟩ := bind_some hg
     refine ca_ (w_ref02_Kind _ _ hy_5) ?_
     refine go_ ?_
     rcases bc_ hg with ⟨h19, hg⟩ | ⟨h19, hg⟩
     ·refine go_ ?_
      refine ch_n fun hU => ?_
      exact ⟨true, hg, sub_ [(0, 0)]⟩
     ·refine go_ ?_
      rcases bc_ hg with ⟨h21, hg⟩ | ⟨h21, hg⟩
      ·refine go_ ?_
       refine ch_n fun hU => ?_
       exact ⟨true, hg, sub_ [(0, 0)]⟩
      ·refine go_ ?_
       rcases bc_ hg with ⟨h23, hg⟩ | ⟨h23, hg⟩
       ·refine go_ ?_
        refine ch_n fun hU => ?_
        exact ⟨true, hg, sub_ [(0, 0)]⟩
       ·refine go_ ?_
        refine ch_n fun hU => ?_
        exact ⟨decide (40000 < c.To), hg, sub_ [(0, 0)]⟩
   ·rintro x67_2 hg
    replace hg : g_ref03_Check.j2 c x67_2 = some r := hg
    show awp _ _ _ _ (mk _ _ _)
    unfold g_ref03_Check.j2 at hg
    refine cg_ rfl hg (fun h26 hg => ?_) fun h26 hg => ?_
    ·refine awp_seq ?_
     refine awp_region (sys _ _ []) 1 9 mk_U rfl rfl ?_
     refine go_ ?_
     refine ch_n fun hU => ?_
     refine aw_r ?_
     obtain rfl := Option.some.inj hg
     exact fin_ [] ⟨rfl, rfl⟩
    ·refine awp_skip ?_
     repeat first | refine st_ ?_ | refine sn_ ?_
     refine awp_seq ?_
     refine awp_cut (ι := Bool) (fun (x91_3 : Bool) => mk [(1, .ptr 0 0), (91, .val (.bool x91_3))] [(0, .box (api_Certificate.dv c) 64)] 1) (fun (x91_3 : Bool) => g_ref03_Check.j3 c x91_3 = some r) ?_ ?_
     ·refine awp_region (sys _ _ []) 1 193 mk_U rfl rfl ?_
      refine go_ ?_
      rcases bc_ hg with ⟨h28, hg⟩ | ⟨h28, hg⟩
      ·refine go_ ?_
       refine ch_n fun hU => ?_
       exact ⟨true, hg, sub_ [(0, 0)]⟩
      ·refine go_ ?_
       rcases bc_ hg with ⟨h30, hg⟩ | ⟨h30, hg⟩
       ·refine go_ ?_
        refine ch_n fun hU => ?_
        exact ⟨true, hg, sub_ [(0, 0)]⟩
       ·refine go_ ?_
        rcases bc_ hg with ⟨h32, hg⟩ | ⟨h32, hg⟩
        ·refine go_ ?_
         rcases bc_ hg with ⟨h33, hg⟩ | ⟨h33, hg⟩
         ·refine go_ ?_
          refine ch_n fun hU => ?_
          exact ⟨true, hg, sub_ [(0, 0)]⟩
         ·refine go_ ?_
          refine ch_n fun hU => ?_
          exact ⟨decide (8 < (c.Names.length : Int)), hg, sub_ [(0, 0)]⟩
        ·refine go_ ?_
         refine ch_n fun hU => ?_
         exact ⟨decide (8 < (c.Names.length : Int)), hg, sub_ [(0, 0)]⟩
     ·rintro x91_3 hg
      replace hg : g_ref03_Check.j3 c x91_3 = some r := hg
      show awp _ _ _ _ (mk _ _ _)
      unfold g_ref03_Check.j3 at hg
      refine cg_ rfl hg (fun h37 hg => ?_) fun h37 hg => ?_
      ·refine awp_seq ?_
       refine awp_region (sys _ _ []) 1 9 mk_U rfl rfl ?_
       refine go_ ?_
       refine ch_n fun hU => ?_
       refine aw_r ?_
       obtain rfl := Option.some.inj hg
       exact fin_ [] ⟨rfl, rfl⟩
      ·refine awp_skip ?_
       repeat first | refine st_ ?_ | refine sn_ ?_
       refine awp_seq ?_
       refine sr_ 1 9 mk_U ?_
       refine go_ ?_
       refine ch_n fun hU => ?_
       refine awp_block ?_
       refine lp_ (fun (i_4 : Int) => mk [(1, .ptr 0 0), (3, .val (.int .i64 i_4))] [(0, .box (api_Certificate.dv c) 64)] 1) hg (sub_ [(0, 0)]) ?_
       rintro i_4 m4 o4 hg hn4
       replace hg : g_ref03_Check.l4 c i_4 = some o4 := hg
       show awp _ _ _ _ (mk _ _ _)
       unfold g_ref03_Check.l4 at hg
       refine awp_seq ?_
       refine sr_ 1 41 mk_U ?_
       refine go_ ?_
       refine ch_n fun hU => ?_
       refine cg_ rfl hg (fun h41 hg => ?_) fun h41 hg => ?_
       ·refine awp_skip ?_
        repeat first | refine st_ ?_ | refine sn_ ?_
        refine awp_seq ?_
        refine awp_block ?_
        refine awp_cut (ι := Bool) (fun (x123_5 : Bool) => mk [(1, .ptr 0 0), (3, .val (.int .i64 i_4)), (123, .val (.bool x123_5))] [(0, .box (api_Certificate.dv c) 64)] 1) (fun (x123_5 : Bool) => g_ref03_Check.j5 i_4 x123_5 = some o4) ?_ ?_
        ·refine awp_draw (sys _ _ []) (by kernel_rfl) [0, 1, 0, 7, 15, 31, 63, 127, 255, 511, 1023, 2047, 4095, 2047, 10239, 32767, 65535, 2047, 133119, 2047, 919551, 1968127, 4194303, 8388607, 16777215] 41 241 hU rfl rfl (by kernel_rfl) ?_
         refine go_ ?_
         obtain ⟨e, he, hg⟩ := bind_some hg
         refine go_ ?_
         refine c0_ rfl rfl (r_loadE1 ty9 (enc_cell eS_len (getI_at he) (o := 0) (c := .str e) rfl rfl)) rfl rfl ?_
         obtain ⟨y_6, hy_6, hg⟩ := bind_some hg
         refine ca_ (w_ref03_Name _ _ hy_6) ?_
         refine go_ ?_
         rcases bc_ hg with ⟨h42, hg⟩ | ⟨h42, hg⟩
         ·refine go_ ?_
          refine ch_n fun hU => ?_
          exact ⟨true, hg, sub_ [(0, 0)]⟩
         ·refine go_ ?_
          rcases bc_ hg with ⟨h44, hg⟩ | ⟨h44, hg⟩
          ·refine go_ ?_
           obtain ⟨e_2, he_2, hg⟩ := bind_some hg
           refine go_ ?_
           refine c0_ (gdv_t rfl rfl h44) rfl (r_loadE1 ty9 (enc_cell eS_len (getI_at he_2) (o := 0) (c := .str e_2) rfl rfl)) rfl rfl ?_
           refine go_ ?_
           refine c0_ (gdv_t rfl rfl h44) rfl (r_loadE1 ty9 (enc_cell eS_len (getI_at he) (o := 0) (c := .str e) rfl rfl)) rfl rfl ?_
           refine c0_ (gdv_t rfl rfl h44) rfl r_sgeq rfl rfl ?_
           refine go_ ?_
           refine ch_n fun hU => ?_
           exact ⟨!ltT (toB e_2) (toB e), hg, sub_ [(0, 0)]⟩
          ·refine go_ ?_
           refine ch_n fun hU => ?_
           exact ⟨false, hg, sub_ [(0, 0)]⟩
        ·rintro x123_5 hg
         replace hg : g_ref03_Check.j5 i_4 x123_5 = some o4 := hg
         show awp _ _ _ _ (mk _ _ _)
         unfold g_ref03_Check.j5 at hg
         refine cg_ rfl hg (fun h47 hg => ?_) fun h47 hg => ?_
         ·refine awp_seq ?_
          refine awp_region (sys _ _ []) 1 9 mk_U rfl rfl ?_
          refine go_ ?_
          refine ch_n fun hU => ?_
          refine aw_r ?_
          replace hg := leave hg hn4
          obtain rfl := Option.some.inj hg
          exact fin_ [] ⟨rfl, rfl⟩
         ·refine awp_skip ?_
          repeat first | refine st_ ?_ | refine sn_ ?_
          refine awp_region (sys _ _ []) 1 25 mk_U rfl rfl ?_
          refine go_ ?_
          refine ch_n fun hU => ?_
          obtain rfl := Option.some.inj hg
          exact ⟨(W (i_4 + 1), m4), Nat.lt_succ_self _, hn4, sub_ [(0, 0)]⟩
       ·refine awp_exit ?_
        repeat first | refine st_ ?_ | refine sn_ ?_
        replace hg := leave hg hn4
        refine awp_seq ?_
        refine awp_cut (ι := Bool) (fun (x145_6 : Bool) => mk [(145, .val (.bool x145_6))] [] 0) (fun (x145_6 : Bool) => g_ref03_Check.j6 x145_6 = some r) ?_ ?_
        ·refine awp_region (sys _ _ []) 41 217 hU rfl rfl ?_
         refine go_ ?_
         rcases bc_ hg with ⟨h50, hg⟩ | ⟨h50, hg⟩
         ·refine go_ ?_
          refine ch_n fun hU => ?_
          exact ⟨true, hg, sub_ []⟩
         ·refine go_ ?_
          rcases bc_ hg with ⟨h52, hg⟩ | ⟨h52, hg⟩
          ·refine go_ ?_
           refine ch_n fun hU => ?_
           exact ⟨true, hg, sub_ []⟩
          ·refine go_ ?_
           rcases bc_ hg with ⟨h54, hg⟩ | ⟨h54, hg⟩
           ·refine go_ ?_
            refine ch_n fun hU => ?_
            exact ⟨true, hg, sub_ []⟩
           ·refine go_ ?_
            refine ch_n fun hU => ?_
            exact ⟨decide (4294967296 ≤ c.Seal.Sum), hg, sub_ []⟩
        ·rintro x145_6 hg
         replace hg : g_ref03_Check.j6 x145_6 = some r := hg
         show awp _ _ _ _ (mk _ _ _)
         unfold g_ref03_Check.j6 at hg
         refine cg_ rfl hg (fun h57 hg => ?_) fun h57 hg => ?_
         ·refine awp_seq ?_
          refine awp_region (sys _ _ []) 0 8 mk_U rfl rfl ?_
          refine go_ ?_
          refine ch_n fun hU => ?_
          refine aw_r ?_
          obtain rfl := Option.some.inj hg
          exact fin_ [] ⟨rfl, rfl⟩
         ·refine awp_skip ?_
          repeat first | refine st_ ?_ | refine sn_ ?_
          refine sr_ 0 8 mk_U ?_
          refine go_ ?_
          refine ch_n fun hU => ?_
          refine aw_r ?_
          obtain rfl := Option.some.inj hg
          exact fin_ [] ⟨rfl, rfl⟩
theorem w_ref05_Right (key : api_Use) (id : Int) (chain : (List api_Certificate)) (r : Bool) (hg : g_ref05_Right key id chain = some r) : Fn Try.prog 22 0 [.agg [.val (.int .i64 key.Alg), .val (.int .i64 key.Bits)], .val (.int .i64 id), .sl 15 (encL api_Certificate.enc chain)] [] (fun d' b' => d' = .val (.bool r) ∧ b' = []) := by
 unfold g_ref05_Right at hg
 refine Fn.of Try.func22 rfl rfl rfl fun w0 I ρ0 => ?_
 show awp _ ⟨w0, I, ρ0, 0, 0, 55⟩ _ _ _
 refine sr_ 0 16 mk_U ?_
 refine go_ ?_
 refine ch_n fun hU => ?_
 refine awp_seq ?_
 refine awp_cut (ι := Bool) (fun (x23_1 : Bool) => mk [(1, .val (.int .i64 id)), (2, .sl 15 (encL api_Certificate.enc chain)), (3, .ptr 0 0), (23, .val (.bool x23_1))] [(0, .box [.val (.int .i64 key.Alg), .val (.int .i64 key.Bits)] 25)] 1) (fun (x23_1 : Bool) => g_ref05_Right.j1 key id chain x23_1 = some r) ?_ ?_
 ·refine awp_region (sys _ _ []) 16 144 hU rfl rfl ?_
  refine go_ ?_
  obtain ⟨y, hy, hg⟩ := bind_some hg
  refine ca_ (w_ref03_Signature _ _ hy) ?_
  refine go_ ?_
  rcases bc_ hg with ⟨h2, hg⟩ | ⟨h2, hg⟩
  ·refine go_ ?_
   refine ch_n fun hU => ?_
   exact ⟨true, hg, sub_ [(0, 0)]⟩
  ·refine go_ ?_
   rcases bc_ hg with ⟨h4, hg⟩ | ⟨h4, hg⟩
   ·refine go_ ?_
    refine ch_n fun hU => ?_
    exact ⟨true, hg, sub_ [(0, 0)]⟩
   ·refine go_ ?_
    rcases bc_ hg with ⟨h6, hg⟩ | ⟨h6, hg⟩
    ·refine go_ ?_
     refine ch_n fun hU => ?_
     exact ⟨true, hg, sub_ [(0, 0)]⟩
    ·refine go_ ?_
     refine ch_n fun hU => ?_
     exact ⟨decide (8 < (chain.length : Int)), hg, sub_ [(0, 0)]⟩
 ·rintro x23_1 hg
  replace hg : g_ref05_Right.j1 key id chain x23_1 = some r := hg
  show awp _ _ _ _ (mk _ _ _)
  unfold g_ref05_Right.j1 at hg
  refine cg_ rfl hg (fun h9 hg => ?_) fun h9 hg => ?_
  ·refine awp_seq ?_
   refine awp_region (sys _ _ []) 1 9 mk_U rfl rfl ?_
   refine go_ ?_
   refine ch_n fun hU => ?_
   refine aw_r ?_
   obtain rfl := Option.some.inj hg
   exact fin_ [] ⟨rfl, rfl⟩
  ·refine awp_skip ?_
   repeat first | refine st_ ?_ | refine sn_ ?_
   refine awp_seq ?_
   refine sr_ 1 9 mk_U ?_
   refine go_ ?_
   refine ch_n fun hU => ?_
   refine awp_block ?_
   refine lp_ (fun (i_2 : Int) => mk [(1, .val (.int .i64 id)), (2, .sl 15 (encL api_Certificate.enc chain)), (3, .ptr 0 0), (7, .val (.int .i64 i_2))] [(0, .box [.val (.int .i64 key.Alg), .val (.int .i64 key.Bits)] 25)] 1) hg (sub_ [(0, 0)]) ?_
   rintro i_2 m2 o2 hg hn2
   replace hg : g_ref05_Right.l2 key id chain i_2 = some o2 := hg
   show awp _ _ _ _ (mk _ _ _)
   unfold g_ref05_Right.l2 at hg
   refine awp_seq ?_
   refine sr_ 1 33 mk_U ?_
   refine go_ ?_
   refine ch_n fun hU => ?_
   refine cg_ rfl hg (fun h13 hg => ?_) fun h13 hg => ?_
   ·refine awp_skip ?_
    repeat first | refine st_ ?_ | refine sn_ ?_
    refine awp_seq ?_
    refine awp_block ?_
    refine sr_ 33 81 hU ?_
    refine go_ ?_
    obtain ⟨e, he, hg⟩ := bind_some hg
    refine go_ ?_
    refine c0_ rfl rfl (r_loadEA ty64 (enc_cells api_Certificate.enc_len (getI_at he) (o := 0) (m := 15) (cs := [.int .i64 e.Serial, .str e.Issuer, .str e.Subject, .int .i64 e.Key.Alg, .int .i64 e.Key.Bits, .int .i64 e.KeyId, .int .i64 e.Hash.Alg, .int .i64 e.Hash.Bits, .int .i64 e.From, .int .i64 e.To, .bool e.Authority, .int .i64 e.Path, .sl 1 (encL eS e.Names), .int .i64 e.Seal.Key, .int .i64 e.Seal.Sum]) rfl (by decide) rfl) (enc_cells_le api_Certificate.enc_len (getI_at he) (o := 0) (m := 15) (by decide) rfl)) rfl rfl ?_
    obtain ⟨y_2, hy_2, hg⟩ := bind_some hg
    refine ca_ (w_ref03_Check _ _ hy_2) ?_
    refine go_ ?_
    refine ch_n fun hU => ?_
    refine cg_ rfl hg (fun h15 hg => ?_) fun h15 hg => ?_
    ·refine awp_seq ?_
     refine awp_region (sys _ _ []) 81 89 hU rfl rfl ?_
     refine go_ ?_
     refine ch_n fun hU => ?_
     refine aw_r ?_
     replace hg := leave hg hn2
     obtain rfl := Option.some.inj hg
     exact fin_ [] ⟨rfl, rfl⟩
    ·refine awp_skip ?_
     repeat first | refine st_ ?_ | refine sn_ ?_
     refine awp_region (sys _ _ []) 81 105 hU rfl rfl ?_
     refine go_ ?_
     refine ch_n fun hU => ?_
     obtain rfl := Option.some.inj hg
     exact ⟨(W (i_2 + 1), m2), Nat.lt_succ_self _, hn2, sub_ [(0, 0)]⟩
   ·refine awp_exit ?_
    repeat first | refine st_ ?_ | refine sn_ ?_
    replace hg := leave hg hn2
    refine awp_seq ?_
    refine awp_draw (sys _ _ []) (by kernel_rfl) [0, 1, 3, 7, 15, 31, 63, 127, 15, 511, 1023, 2047, 4095, 8191, 16383, 2047, 65535, 131071, 262143, 524287] 33 193 hU rfl rfl (by kernel_rfl) ?_
    refine go_ ?_
    rcases bc_ hg with ⟨h18, hg⟩ | ⟨h18, hg⟩
    ·refine go_ ?_
     refine ch_n fun hU => ?_
     refine aw_r ?_
     obtain rfl := Option.some.inj hg
     exact fin_ [] ⟨rfl, rfl⟩
    ·refine go_ ?_
     obtain ⟨e_2, he_2, hg⟩ := bind_some hg
     refine go_ ?_
     refine c0_ (gdv_t rfl rfl h18) rfl (r_fieldE fd64_3 ty25 (by decide) (enc_lt api_Certificate.enc_len (getI_at he_2) (o := 3) (by decide) rfl)) rfl rfl ?_
     refine c0_ (gdv_t rfl rfl h18) rfl (r_loadEA ty25 (enc_cells api_Certificate.enc_len (getI_at he_2) (o := 3) (m := 2) (cs := [.int .i64 e_2.Key.Alg, .int .i64 e_2.Key.Bits]) rfl (by decide) rfl) (enc_cells_le api_Certificate.enc_len (getI_at he_2) (o := 3) (m := 2) (by decide) rfl)) rfl rfl ?_
     refine go_ ?_
     refine c0_ (gdv_t rfl rfl h18) rfl (steq25_eql e_2.Key key) rfl rfl ?_
     refine go_ ?_
     rcases bc_ hg with ⟨h20, hg⟩ | ⟨h20, hg⟩
     ·refine go_ ?_
      refine c0_ (gdv_t rfl rfl h20) rfl (r_fieldE fd64_4 ty3 (by decide) (enc_lt api_Certificate.enc_len (getI_at he_2) (o := 5) (by decide) rfl)) rfl rfl ?_
      refine c0_ (gdv_t rfl rfl h20) rfl (r_loadE1 ty3 (enc_cell api_Certificate.enc_len (getI_at he_2) (o := 5) (c := .int .i64 e_2.KeyId) rfl rfl)) rfl rfl ?_
      refine go_ ?_
      refine ch_n fun hU => ?_
      refine aw_r ?_
      obtain rfl := Option.some.inj hg
      exact fin_ [] ⟨rfl, rfl⟩
     ·refine go_ ?_
      refine ch_n fun hU => ?_
      refine aw_r ?_
      obtain rfl := Option.some.inj hg
      exact fin_ [] ⟨rfl, rfl⟩
theorem w_ref05_Check (l : (List api_Entry)) (r : Int) (hg : g_ref05_Check l = some r) : Fn Try.prog 9 0 [.sl 6 (encL api_Entry.enc l)] [] (fun d' b' => d' = .val (.int .i64 r) ∧ b' = []) := by
 unfold g_ref05_Check at hg
 refine Fn.of Try.func9 rfl rfl rfl fun w0 I ρ0 => ?_
 show awp _ ⟨w0, I, ρ0, 0, 0, 57⟩ _ _ _
 refine sr_ 0 8 mk_U ?_
 refine go_ ?_
 refine ch_n fun hU => ?_
 refine awp_seq ?_
 refine sr_ 8 32 hU ?_
 refine go_ ?_
 refine ch_n fun hU => ?_
 refine cg_ rfl hg (fun h3 hg => ?_) fun h3 hg => ?_
 ·refine awp_seq ?_
  refine awp_region (sys _ _ []) 32 40 hU rfl rfl ?_
  refine go_ ?_
  refine ch_n fun hU => ?_
  refine aw_r ?_
  obtain rfl := Option.some.inj hg
  exact fin_ [] ⟨rfl, rfl⟩
 ·refine awp_skip ?_
  repeat first | refine st_ ?_ | refine sn_ ?_
  refine awp_seq ?_
  refine sr_ 32 40 hU ?_
  refine go_ ?_
  refine ch_n fun hU => ?_
  refine awp_block ?_
  refine lp_ (fun (i_1 : Int) => mk [(0, .sl 6 (encL api_Entry.enc l)), (3, .val (.int .i64 i_1))] [] 0) hg (sub_ []) ?_
  rintro i_1 m1 o1 hg hn1
  replace hg : g_ref05_Check.l1 l i_1 = some o1 := hg
  show awp _ _ _ _ (mk _ _ _)
  unfold g_ref05_Check.l1 at hg
  refine awp_seq ?_
  refine sr_ 0 32 mk_U ?_
  refine go_ ?_
  refine ch_n fun hU => ?_
  refine cg_ rfl hg (fun h7 hg => ?_) fun h7 hg => ?_
  ·refine awp_skip ?_
   repeat first | refine st_ ?_ | refine sn_ ?_
   refine awp_seq ?_
   refine awp_block ?_
   refine awp_cut (ι := Bool) (fun (x56_2 : Bool) => mk [(0, .sl 6 (encL api_Entry.enc l)), (3, .val (.int .i64 i_1)), (56, .val (.bool x56_2))] [] 0) (fun (x56_2 : Bool) => g_ref05_Check.j2 i_1 x56_2 = some o1) ?_ ?_
   ·refine awp_draw (sys _ _ []) (by kernel_rfl) [0, 0, 3, 7, 15, 31, 63, 127, 255, 511, 1023, 2047, 2047, 6143, 16383, 32767, 65535, 2047, 2047, 395263, 919551, 1968127, 4194303, 8388607, 16777215, 33554431, 67108863, 67108863, 268435455, 536870911, 1073741823, 67108863, 67108863, 6509559807, 15099494399, 32279363583, 67108863, 67108863, 206225539071, 481103446015, 1030859259903, 2199023255551, 4398046511103, 8796093022207] 32 384 hU rfl rfl (by kernel_rfl) ?_
    refine go_ ?_
    obtain ⟨e, he, hg⟩ := bind_some hg
    refine go_ ?_
    refine c0_ rfl rfl (r_fieldE fd28_0 ty9 (by decide) (enc_lt api_Entry.enc_len (getI_at he) (o := 0) (by decide) rfl)) rfl rfl ?_
    refine c0_ rfl rfl (r_loadE1 ty9 (enc_cell api_Entry.enc_len (getI_at he) (o := 0) (c := .str e.Alias) rfl rfl)) rfl rfl ?_
    obtain ⟨y, hy, hg⟩ := bind_some hg
    refine ca_ (w_ref03_Name _ _ hy) ?_
    refine go_ ?_
    rcases bc_ hg with ⟨h8, hg⟩ | ⟨h8, hg⟩
    ·refine go_ ?_
     refine ch_n fun hU => ?_
     exact ⟨true, hg, sub_ []⟩
    ·refine go_ ?_
     rcases bc_ hg with ⟨h10, hg⟩ | ⟨h10, hg⟩
     ·refine go_ ?_
      obtain ⟨e_2, he_2, hg⟩ := bind_some hg
      refine go_ ?_
      refine c0_ (gdv_t rfl rfl h10) rfl (r_fieldE fd28_0 ty9 (by decide) (enc_lt api_Entry.enc_len (getI_at he_2) (o := 0) (by decide) rfl)) rfl rfl ?_
      refine c0_ (gdv_t rfl rfl h10) rfl (r_loadE1 ty9 (enc_cell api_Entry.enc_len (getI_at he_2) (o := 0) (c := .str e_2.Alias) rfl rfl)) rfl rfl ?_
      refine go_ ?_
      refine c0_ (gdv_t rfl rfl h10) rfl (r_fieldE fd28_0 ty9 (by decide) (enc_lt api_Entry.enc_len (getI_at he) (o := 0) (by decide) rfl)) rfl rfl ?_
      refine c0_ (gdv_t rfl rfl h10) rfl (r_loadE1 ty9 (enc_cell api_Entry.enc_len (getI_at he) (o := 0) (c := .str e.Alias) rfl rfl)) rfl rfl ?_
      refine c0_ (gdv_t rfl rfl h10) rfl r_sgeq rfl rfl ?_
      refine go_ ?_
      rcases bc_ hg with ⟨h11, hg⟩ | ⟨h11, hg⟩
      ·refine go_ ?_
       refine ch_n fun hU => ?_
       exact ⟨true, hg, sub_ []⟩
      ·refine go_ ?_
       refine c0_ (gdv_t rfl rfl h11) rfl (r_fieldE fd28_1 ty25 (by decide) (enc_lt api_Entry.enc_len (getI_at he) (o := 1) (by decide) rfl)) rfl rfl ?_
       refine c0_ (gdv_t rfl rfl h11) rfl (r_loadEA ty25 (enc_cells api_Entry.enc_len (getI_at he) (o := 1) (m := 2) (cs := [.int .i64 e.Key.Alg, .int .i64 e.Key.Bits]) rfl (by decide) rfl) (enc_cells_le api_Entry.enc_len (getI_at he) (o := 1) (m := 2) (by decide) rfl)) rfl rfl ?_
       refine go_ ?_
       refine c0_ (gdv_t rfl rfl h11) rfl (r_fieldE fd28_2 ty3 (by decide) (enc_lt api_Entry.enc_len (getI_at he) (o := 3) (by decide) rfl)) rfl rfl ?_
       refine c0_ (gdv_t rfl rfl h11) rfl (r_loadE1 ty3 (enc_cell api_Entry.enc_len (getI_at he) (o := 3) (c := .int .i64 e.KeyId) rfl rfl)) rfl rfl ?_
       refine go_ ?_
       refine c0_ (gdv_t rfl rfl h11) rfl (r_fieldE fd28_4 ty26 (by decide) (enc_lt api_Entry.enc_len (getI_at he) (o := 5) (by decide) rfl)) rfl rfl ?_
       refine c0_ (gdv_t rfl rfl h11) rfl (r_loadE1 ty26 (enc_cell api_Entry.enc_len (getI_at he) (o := 5) (c := .sl 15 (encL api_Certificate.enc e.Chain)) rfl rfl)) rfl rfl ?_
       obtain ⟨y_2, hy_2, hg⟩ := bind_some hg
       refine ca_ (w_ref05_Right _ _ _ _ hy_2) ?_
       refine go_ ?_
       refine ch_n fun hU => ?_
       exact ⟨!y_2, hg, sub_ []⟩
     ·refine go_ ?_
      refine c0_ (gdv_t rfl rfl rfl) rfl (r_fieldE fd28_1 ty25 (by decide) (enc_lt api_Entry.enc_len (getI_at he) (o := 1) (by decide) rfl)) rfl rfl ?_
      refine c0_ (gdv_t rfl rfl rfl) rfl (r_loadEA ty25 (enc_cells api_Entry.enc_len (getI_at he) (o := 1) (m := 2) (cs := [.int .i64 e.Key.Alg, .int .i64 e.Key.Bits]) rfl (by decide) rfl) (enc_cells_le api_Entry.enc_len (getI_at he) (o := 1) (m := 2) (by decide) rfl)) rfl rfl ?_
      refine go_ ?_
      refine c0_ (gdv_t rfl rfl rfl) rfl (r_fieldE fd28_2 ty3 (by decide) (enc_lt api_Entry.enc_len (getI_at he) (o := 3) (by decide) rfl)) rfl rfl ?_
      refine c0_ (gdv_t rfl rfl rfl) rfl (r_loadE1 ty3 (enc_cell api_Entry.enc_len (getI_at he) (o := 3) (c := .int .i64 e.KeyId) rfl rfl)) rfl rfl ?_
      refine go_ ?_
      refine c0_ (gdv_t rfl rfl rfl) rfl (r_fieldE fd28_4 ty26 (by decide) (enc_lt api_Entry.enc_len (getI_at he) (o := 5) (by decide) rfl)) rfl rfl ?_
      refine c0_ (gdv_t rfl rfl rfl) rfl (r_loadE1 ty26 (enc_cell api_Entry.enc_len (getI_at he) (o := 5) (c := .sl 15 (encL api_Certificate.enc e.Chain)) rfl rfl)) rfl rfl ?_
      obtain ⟨y_3, hy_3, hg⟩ := bind_some hg
      refine ca_ (w_ref05_Right _ _ _ _ hy_3) ?_
      refine go_ ?_
      refine ch_n fun hU => ?_
      exact ⟨!y_3, hg, sub_ []⟩
   ·rintro x56_2 hg
    replace hg : g_ref05_Check.j2 i_1 x56_2 = some o1 := hg
    show awp _ _ _ _ (mk _ _ _)
    unfold g_ref05_Check.j2 at hg
    refine cg_ rfl hg (fun h15 hg => ?_) fun h15 hg => ?_
    ·refine awp_seq ?_
     refine awp_region (sys _ _ []) 0 8 mk_U rfl rfl ?_
     refine go_ ?_
     refine ch_n fun hU => ?_
     refine aw_r ?_
     replace hg := leave hg hn1
     obtain rfl := Option.some.inj hg
     exact fin_ [] ⟨rfl, rfl⟩
    ·refine awp_skip ?_
     repeat first | refine st_ ?_ | refine sn_ ?_
     refine awp_region (sys _ _ []) 0 24 mk_U rfl rfl ?_
     refine go_ ?_
     refine ch_n fun hU => ?_
     obtain rfl := Option.some.inj hg
     exact ⟨(W (i_1 + 1), m1), Nat.lt_succ_self _, hn1, sub_ []⟩
  ·refine awp_exit ?_
   repeat first | refine st_ ?_ | refine sn_ ?_
   replace hg := leave hg hn1
   refine sr_ 32 40 hU ?_
   refine go_ ?_
   refine ch_n fun hU => ?_
   refine aw_r ?_
   obtain rfl := Option.some.inj hg
   exact fin_ [] ⟨rfl, rfl⟩
theorem w_ref03_Copy (c : api_Certificate) (r : api_Certificate) (hg : g_ref03_Copy c = some r) : Fn Try.prog 54 0 [.agg (api_Certificate.dv c)] [] (fun d' b' => d' = .agg (api_Certificate.dv r) ∧ b' = []) := by
 unfold g_ref03_Copy at hg
 refine Fn.of Try.func54 rfl rfl rfl fun w0 I ρ0 => ?_
 show awp _ ⟨w0, I, ρ0, 0, 0, 9⟩ _ _ _
 refine sr_ 0 16 mk_U ?_
 refine go_ ?_
 refine ch_n fun hU => ?_
 refine sr_ 16 64 hU ?_
 refine c0_ rfl rfl (r_buildFull sl51 z9 (by decide) rfl rfl rfl rfl ck9 (cs := []) .nil rfl (l := ([] : List ByteArray)) (f := eS) rfl) rfl rfl ?_
 refine go_ ?_
 obtain ⟨l, hl, hg⟩ := bind_some hg
 refine ch_s (rd := [16]) rfl rfl (r_append sl51 eS_len .row rfl .sl rfl hl rfl) rfl rfl ?_
 refine go_ ?_
 refine ch_n fun hU => ?_
 refine sr_ 64 80 hU ?_
 refine go_ ?_
 refine ch_n fun hU => ?_
 refine aw_r ?_
 obtain rfl := Option.some.inj hg
 exact fin_ [] ⟨rfl, rfl⟩
theorem w_ref03_CopyChain (l : (List api_Certificate)) (r : (List api_Certificate)) (hg : g_ref03_CopyChain l = some r) : Fn Try.prog 31 0 [.sl 15 (encL api_Certificate.enc l)] [] (fun d' b' => d' = .sl 15 (encL api_Certificate.enc r) ∧ b' = []) := by
 unfold g_ref03_CopyChain at hg
 refine Fn.of Try.func31 rfl rfl rfl fun w0 I ρ0 => ?_
 show awp _ ⟨w0, I, ρ0, 0, 0, 20⟩ _ _ _
 refine sr_ 0 8 mk_U ?_
 refine go_ ?_
 refine ch_n fun hU => ?_
 refine sr_ 8 16 hU ?_
 refine go_ ?_
 refine ch_n fun hU => ?_
 refine awp_seq ?_
 refine sr_ 16 24 hU ?_
 refine go_ ?_
 refine ch_n fun hU => ?_
 refine awp_block ?_
 refine lp_ (fun ((i_1, out_1) : Int × List api_Certificate) => mk [(0, .sl 15 (encL api_Certificate.enc l)), (3, .row 0), (4, .val (.int .i64 i_1))] [(0, .row 64 15 (encL api_Certificate.enc out_1))] 1) hg (sub_ []) ?_
 rintro ⟨i_1, out_1⟩ m1 o1 hg hn1
 replace hg : g_ref03_CopyChain.l1 l i_1 out_1 = some o1 := hg
 show awp _ _ _ _ (mk _ _ _)
 unfold g_ref03_CopyChain.l1 at hg
 refine awp_seq ?_
 refine sr_ 1 33 mk_U ?_
 refine go_ ?_
 refine ch_n fun hU => ?_
 refine cg_ rfl hg (fun h5 hg => ?_) fun h5 hg => ?_
 ·refine awp_skip ?_
  repeat first | refine st_ ?_ | refine sn_ ?_
  refine awp_seq ?_
  refine awp_block ?_
  refine awp_region (sys _ _ []) 33 105 hU rfl rfl ?_
  refine go_ ?_
  obtain ⟨e, he, hg⟩ := bind_some hg
  refine go_ ?_
  refine c0_ rfl rfl (r_loadEA ty64 (enc_cells api_Certificate.enc_len (getI_at he) (o := 0) (m := 15) (cs := [.int .i64 e.Serial, .str e.Issuer, .str e.Subject, .int .i64 e.Key.Alg, .int .i64 e.Key.Bits, .int .i64 e.KeyId, .int .i64 e.Hash.Alg, .int .i64 e.Hash.Bits, .int .i64 e.From, .int .i64 e.To, .bool e.Authority, .int .i64 e.Path, .sl 1 (encL eS e.Names), .int .i64 e.Seal.Key, .int .i64 e.Seal.Sum]) rfl (by decide) rfl) (enc_cells_le api_Certificate.enc_len (getI_at he) (o := 0) (m := 15) (by decide) rfl)) rfl rfl ?_
  obtain ⟨y, hy, hg⟩ := bind_some hg
  refine ca_ (w_ref03_Copy _ _ hy) ?_
  refine c0_ rfl rfl (r_buildFull sl26 z64 (by decide) rfl rfl rfl rfl ck64 (cs := [.int .i64 y.Serial, .str y.Issuer, .str y.Subject, .int .i64 y.Key.Alg, .int .i64 y.Key.Bits, .int .i64 y.KeyId, .int .i64 y.Hash.Alg, .int .i64 y.Hash.Bits, .int .i64 y.From, .int .i64 y.To, .bool y.Authority, .int .i64 y.Path, .sl 1 (encL eS y.Names), .int .i64 y.Seal.Key, .int .i64 y.Seal.Sum]) (.cons .int (.cons .str (.cons .str (.cons .int (.cons .int (.cons .int (.cons .int (.cons .int (.cons .int (.cons .int (.cons .bool (.cons .int (.cons .sl (.cons .int (.cons .int .nil))))))))))))))) rfl (l := ([y] : List api_Certificate)) (f := api_Certificate.enc) rfl) rfl rfl ?_
  obtain ⟨l_2, hl_2, hg⟩ := bind_some hg
  refine ch_s (rd := [0, 81]) rfl rfl (r_append sl26 api_Certificate.enc_len .row rfl .row rfl hl_2 rfl) rfl rfl ?_
  refine go_ ?_
  refine ch_n fun hU => ?_
  refine awp_region (sys _ _ []) 105 129 hU rfl rfl ?_
  refine go_ ?_
  refine ch_n fun hU => ?_
  obtain rfl := Option.some.inj hg
  exact ⟨((W (i_1 + 1), l_2), m1), Nat.lt_succ_self _, hn1, sub_ [(0, 89)]⟩
 ·refine awp_exit ?_
  repeat first | refine st_ ?_ | refine sn_ ?_
  replace hg := leave hg hn1
  refine sr_ 33 49 hU ?_
  refine go_ ?_
  refine ch_n fun hU => ?_
  refine aw_r ?_
  obtain rfl := Option.some.inj hg
  exact fin_ [] ⟨rfl, rfl⟩
theorem w_ref05_copied (e : api_Entry) (r : api_Entry) (hg : g_ref05_copied e = some r) : Fn Try.prog 18 0 [.agg (api_Entry.dv e)] [] (fun d' b' => d' = .agg (api_Entry.dv r) ∧ b' = []) := by
 unfold g_ref05_copied at hg
 refine Fn.of Try.func18 rfl rfl rfl fun w0 I ρ0 => ?_
 show awp _ ⟨w0, I, ρ0, 0, 0, 8⟩ _ _ _
 refine sr_ 0 16 mk_U ?_
 refine go_ ?_
 refine ch_n fun hU => ?_
 refine sr_ 16 56 hU ?_
 refine go_ ?_
 obtain ⟨y, hy, hg⟩ := bind_some hg
 refine ca_ (w_ref03_CopyChain _ _ hy) ?_
 refine go_ ?_
 refine ch_n fun hU => ?_
 refine sr_ 56 72 hU ?_
 refine go_ ?_
 refine ch_n fun hU => ?_
 refine aw_r ?_
 obtain rfl := Option.some.inj hg
 exact fin_ [] ⟨rfl, rfl⟩
theorem w_ref05_Merge (a : (List api_Entry)) (b : (List api_Entry)) (r : (List api_Entry) × Int) (hg : g_ref05_Merge a b = some r) : Fn Try.prog 7 0 [.sl 6 (encL api_Entry.enc a), .sl 6 (encL api_Entry.enc b)] [] (fun d' b' => d' = .tup [.sl 6 (encL api_Entry.enc r.1), .val (.int .i64 r.2)] ∧ b' = []) := by
 unfold g_ref05_Merge at hg
 refine Fn.of Try.func7 rfl rfl rfl fun w0 I ρ0 => ?_
 show awp _ ⟨w0, I, ρ0, 0, 0, 93⟩ _ _ _
 refine sr_ 0 16 mk_U ?_
 refine go_ ?_
 refine ch_n fun hU => ?_
 refine awp_seq ?_
 refine awp_cut (ι := Bool) (fun (x16_1 : Bool) => mk [(0, .sl 6 (encL api_Entry.enc a)), (1, .sl 6 (encL api_Entry.enc b)), (16, .val (.bool x16_1))] [] 0) (fun (x16_1 : Bool) => g_ref05_Merge.j1 a b x16_1 = some r) ?_ ?_
 ·refine awp_region (sys _ _ []) 16 80 hU rfl rfl ?_
  refine go_ ?_
  obtain ⟨y, hy, hg⟩ := bind_some hg
  refine ca_ (w_ref05_Check _ _ hy) ?_
  refine go_ ?_
  rcases bc_ hg with ⟨h2, hg⟩ | ⟨h2, hg⟩
  ·refine go_ ?_
   refine ch_n fun hU => ?_
   exact ⟨true, hg, sub_ []⟩
  ·refine go_ ?_
   obtain ⟨y_2, hy_2, hg⟩ := bind_some hg
   refine ca_ (w_ref05_Check _ _ hy_2) ?_
   refine go_ ?_
   refine ch_n fun hU => ?_
   exact ⟨!decide (y_2 = 0), hg, sub_ []⟩
 ·rintro x16_1 hg
  replace hg : g_ref05_Merge.j1 a b x16_1 = some r := hg
  show awp _ _ _ _ (mk _ _ _)
  unfold g_ref05_Merge.j1 at hg
  refine cg_ rfl hg (fun h5 hg => ?_) fun h5 hg => ?_
  ·refine awp_seq ?_
   refine awp_region (sys _ _ []) 0 16 mk_U rfl rfl ?_
   refine go_ ?_
   refine ch_n fun hU => ?_
   refine aw_r ?_
   obtain rfl := Option.some.inj hg
   exact fin_ [] ⟨rfl, rfl⟩
  ·refine awp_skip ?_
   repeat first | refine st_ ?_ | refine sn_ ?_
   refine sr_ 0 8 mk_U ?_
   refine go_ ?_
   refine ch_n fun hU => ?_
   refine sr_ 8 24 hU ?_
   refine go_ ?_
   refine ch_n fun hU => ?_
   refine awp_seq ?_
   refine awp_block ?_
   refine lp_ (fun ((i_2, k_2, out_2) : Int × Int × List api_Entry) => mk [(0, .sl 6 (encL api_Entry.enc a)), (1, .sl 6 (encL api_Entry.enc b)), (6, .row 0), (7, .val (.int .i64 i_2)), (8, .val (.int .i64 k_2))] [(0, .row 28 6 (encL api_Entry.enc out_2))] 1) hg (sub_ []) ?_
   rintro ⟨i_2, k_2, out_2⟩ m2 o2 hg hn2
   replace hg : g_ref05_Merge.l2 a b i_2 k_2 out_2 = some o2 := hg
   show awp _ _ _ _ (mk _ _ _)
   unfold g_ref05_Merge.l2 at hg
   refine awp_seq ?_
   refine awp_cut (ι := Bool) (fun (x26_3 : Bool) => mk [(0, .sl 6 (encL api_Entry.enc a)), (1, .sl 6 (encL api_Entry.enc b)), (6, .row 0), (7, .val (.int .i64 i_2)), (8, .val (.int .i64 k_2)), (26, .val (.bool x26_3))] [(0, .row 28 6 (encL api_Entry.enc out_2))] 1) (fun (x26_3 : Bool) => g_ref05_Merge.j3 a b i_2 k_2 out_2 x26_3 = some o2) ?_ ?_
   ·refine awp_region (sys _ _ []) 1 81 mk_U rfl rfl ?_
    refine go_ ?_
    rcases bc_ hg with ⟨h9, hg⟩ | ⟨h9, hg⟩
    ·refine go_ ?_
     refine ch_n fun hU => ?_
     exact ⟨true, hg, sub_ [(0, 0)]⟩
    ·refine go_ ?_
     refine ch_n fun hU => ?_
     exact ⟨decide (k_2 < (b.length : Int)), hg, sub_ [(0, 0)]⟩
   ·rintro x26_3 hg
    replace hg : g_ref05_Merge.j3 a b i_2 k_2 out_2 x26_3 = some o2 := hg
    show awp _ _ _ _ (mk _ _ _)
    unfold g_ref05_Merge.j3 at hg
    refine cg_ rfl hg (fun h12 hg => ?_) fun h12 hg => ?_
    ·refine awp_skip ?_
     repeat first | refine st_ ?_ | refine sn_ ?_
     refine awp_block ?_
     refine awp_seq ?_
     refine awp_cut (ι := Bool) (fun (x49_4 : Bool) => mk [(0, .sl 6 (encL api_Entry.enc a)), (1, .sl 6 (encL api_Entry.enc b)), (6, .row 0), (7, .val (.int .i64 i_2)), (8, .val (.int .i64 k_2)), (49, .val (.bool x49_4))] [(0, .row 28 6 (encL api_Entry.enc out_2))] 1) (fun (x49_4 : Bool) => g_ref05_Merge.j4 a b i_2 k_2 out_2 x49_4 = some o2) ?_ ?_
     ·refine awp_draw (sys _ _ []) (by kernel_rfl) [0, 0, 2, 7, 15, 31, 31, 95, 255, 511, 1023, 1023, 4095, 8191, 16383, 1023, 1023, 99327, 230399, 492543, 1048575, 2097151, 4194303] 1 185 mk_U rfl rfl (by kernel_rfl) ?_
      refine go_ ?_
      rcases bc_ hg with ⟨h13, hg⟩ | ⟨h13, hg⟩
      ·refine go_ ?_
       refine ch_n fun hU => ?_
       exact ⟨true, hg, sub_ [(0, 0)]⟩
      ·refine go_ ?_
       rcases bc_ hg with ⟨h15, hg⟩ | ⟨h15, hg⟩
       ·refine go_ ?_
        obtain ⟨e, he, hg⟩ := bind_some hg
        refine go_ ?_
        refine c0_ (gdv_t rfl rfl h15) rfl (r_fieldE fd28_0 ty9 (by decide) (enc_lt api_Entry.enc_len (getI_at he) (o := 0) (by decide) rfl)) rfl rfl ?_
        refine c0_ (gdv_t rfl rfl h15) rfl (r_loadE1 ty9 (enc_cell api_Entry.enc_len (getI_at he) (o := 0) (c := .str e.Alias) rfl rfl)) rfl rfl ?_
        refine go_ ?_
        obtain ⟨e_2, he_2, hg⟩ := bind_some hg
        refine go_ ?_
        refine c0_ (gdv_t rfl rfl h15) rfl (r_fieldE fd28_0 ty9 (by decide) (enc_lt api_Entry.enc_len (getI_at he_2) (o := 0) (by decide) rfl)) rfl rfl ?_
        refine c0_ (gdv_t rfl rfl h15) rfl (r_loadE1 ty9 (enc_cell api_Entry.enc_len (getI_at he_2) (o := 0) (c := .str e_2.Alias) rfl rfl)) rfl rfl ?_
        refine c0_ (gdv_t rfl rfl h15) rfl r_slss rfl rfl ?_
        refine go_ ?_
        refine ch_n fun hU => ?_
        exact ⟨ltT (toB e.Alias) (toB e_2.Alias), hg, sub_ [(0, 0)]⟩
       ·refine go_ ?_
        refine ch_n fun hU => ?_
        exact ⟨false, hg, sub_ [(0, 0)]⟩
     ·rintro x49_4 hg
      replace hg : g_ref05_Merge.j4 a b i_2 k_2 out_2 x49_4 = some o2 := hg
      show awp _ _ _ _ (mk _ _ _)
      unfold g_ref05_Merge.j4 at hg
      refine cg_ rfl hg (fun h18 hg => ?_) fun h18 hg => ?_
      ·refine awp_seq ?_
       refine awp_region (sys _ _ []) 1 73 mk_U rfl rfl ?_
       refine go_ ?_
       obtain ⟨e_3, he_3, hg⟩ := bind_some hg
       refine go_ ?_
       refine c0_ rfl rfl (r_loadEA ty28 (enc_cells api_Entry.enc_len (getI_at he_3) (o := 0) (m := 6) (cs := [.str e_3.Alias, .int .i64 e_3.Key.Alg, .int .i64 e_3.Key.Bits, .int .i64 e_3.KeyId, .bool e_3.Secret, .sl 15 (encL api_Certificate.enc e_3.Chain)]) rfl (by decide) rfl) (enc_cells_le api_Entry.enc_len (getI_at he_3) (o := 0) (m := 6) (by decide) rfl)) rfl rfl ?_
       obtain ⟨y_3, hy_3, hg⟩ := bind_some hg
       refine ca_ (w_ref05_copied _ _ hy_3) ?_
       refine c0_ rfl rfl (r_buildFull sl22 z28 (by decide) rfl rfl rfl rfl ck28 (cs := [.str y_3.Alias, .int .i64 y_3.Key.Alg, .int .i64 y_3.Key.Bits, .int .i64 y_3.KeyId, .bool y_3.Secret, .sl 15 (encL api_Certificate.enc y_3.Chain)]) (.cons .str (.cons .int (.cons .int (.cons .int (.cons .bool (.cons .sl .nil)))))) rfl (l := ([y_3] : List api_Entry)) (f := api_Entry.enc) rfl) rfl rfl ?_
       obtain ⟨l, hl, hg⟩ := bind_some hg
       refine ch_s (rd := [0, 49]) rfl rfl (r_append sl22 api_Entry.enc_len .row rfl .row rfl hl rfl) rfl rfl ?_
       refine go_ ?_
       refine ch_n fun hU => ?_
       refine sr_ 73 97 hU ?_
       refine go_ ?_
       refine ch_n fun hU => ?_
       refine awp_exit ?_
       repeat first | refine st_ ?_ | refine sn_ ?_
       obtain rfl := Option.some.inj hg
       exact ⟨((W (i_2 + 1), k_2, l), m2), Nat.lt_succ_self _, hn2, sub_ [(0, 57)]⟩
      ·refine awp_skip ?_
       repeat first | refine st_ ?_ | refine sn_ ?_
       refine awp_cut (ι := Int) (fun (i_6 : Int) => mk [(0, .sl 6 (encL api_Entry.enc a)), (1, .sl 6 (encL api_Entry.enc b)), (6, .row 0), (7, .val (.int .i64 i_6)), (8, .val (.int .i64 k_2))] [(0, .row 28 6 (encL api_Entry.enc out_2))] 1) (fun (i_6 : Int) => g_ref05_Merge.j6 b k_2 out_2 i_6 = some o2) ?_ ?_
       ·refine awp_cut (ι := Bool) (fun (x76_5 : Bool) => mk [(0, .sl 6 (encL api_Entry.enc a)), (1, .sl 6 (encL api_Entry.enc b)), (6, .row 0), (7, .val (.int .i64 i_2)), (8, .val (.int .i64 k_2)), (76, .val (.bool x76_5))] [(0, .row 28 6 (encL api_Entry.enc out_2))] 1) (fun (x76_5 : Bool) => g_ref05_Merge.j5 b i_2 k_2 out_2 x76_5 = some o2) ?_ ?_
        ·refine awp_draw (sys _ _ []) (by kernel_rfl) [0, 0, 2, 7, 15, 31, 31, 127, 255, 511, 31, 31, 3103, 7199, 15391, 32767, 65535] 1 137 mk_U rfl rfl (by kernel_rfl) ?_
         refine go_ ?_
         rcases bc_ hg with ⟨h21, hg⟩ | ⟨h21, hg⟩
         ·refine go_ ?_
          obtain ⟨e_4, he_4, hg⟩ := bind_some hg
          refine go_ ?_
          refine c0_ (gdv_t rfl rfl h21) rfl (r_fieldE fd28_0 ty9 (by decide) (enc_lt api_Entry.enc_len (getI_at he_4) (o := 0) (by decide) rfl)) rfl rfl ?_
          refine c0_ (gdv_t rfl rfl h21) rfl (r_loadE1 ty9 (enc_cell api_Entry.enc_len (getI_at he_4) (o := 0) (c := .str e_4.Alias) rfl rfl)) rfl rfl ?_
          refine go_ ?_
          obtain ⟨e_5, he_5, hg⟩ := bind_some hg
          refine go_ ?_
          refine c0_ (gdv_t rfl rfl h21) rfl (r_fieldE fd28_0 ty9 (by decide) (enc_lt api_Entry.enc_len (getI_at he_5) (o := 0) (by decide) rfl)) rfl rfl ?_
          refine c0_ (gdv_t rfl rfl h21) rfl (r_loadE1 ty9 (enc_cell api_Entry.enc_len (getI_at he_5) (o := 0) (c := .str e_5.Alias) rfl rfl)) rfl rfl ?_
          refine go_ ?_
          refine ch_n fun hU => ?_
          exact ⟨decide (e_4.Alias = e_5.Alias), hg, sub_ [(0, 0)]⟩
         ·refine go_ ?_
          refine ch_n fun hU => ?_
          exact ⟨false, hg, sub_ [(0, 0)]⟩
        ·rintro x76_5 hg
         replace hg : g_ref05_Merge.j5 b i_2 k_2 out_2 x76_5 = some o2 := hg
         show awp _ _ _ _ (mk _ _ _)
         unfold g_ref05_Merge.j5 at hg
         refine cg_ rfl hg (fun h24 hg => ?_) fun h24 hg => ?_
         ·refine awp_region (sys _ _ []) 1 25 mk_U rfl rfl ?_
          refine go_ ?_
          refine ch_n fun hU => ?_
          exact ⟨W (i_2 + 1), hg, sub_ [(0, 0)]⟩
         ·refine awp_skip ?_
          repeat first | refine st_ ?_ | refine sn_ ?_
          exact ⟨i_2, hg, sub_ [(0, 0)]⟩
       ·rintro i_6 hg
        replace hg : g_ref05_Merge.j6 b k_2 out_2 i_6 = some o2 := hg
        show awp _ _ _ _ (mk _ _ _)
        unfold g_ref05_Merge.j6 at hg
        refine sr_ 1 73 mk_U ?_
        refine go_ ?_
        obtain ⟨e_6, he_6, hg⟩ := bind_some hg
        refine go_ ?_
        refine c0_ rfl rfl (r_loadEA ty28 (enc_cells api_Entry.enc_len (getI_at he_6) (o := 0) (m := 6) (cs := [.str e_6.Alias, .int .i64 e_6.Key.Alg, .int .i64 e_6.Key.Bits, .int .i64 e_6.KeyId, .bool e_6.Secret, .sl 15 (encL api_Certificate.enc e_6.Chain)]) rfl (by decide) rfl) (enc_cells_le api_Entry.enc_len (getI_at he_6) (o := 0) (m := 6) (by decide) rfl)) rfl rfl ?_
        obtain ⟨y_4, hy_4, hg⟩ := bind_some hg
        refine ca_ (w_ref05_copied _ _ hy_4) ?_
        refine c0_ rfl rfl (r_buildFull sl22 z28 (by decide) rfl rfl rfl rfl ck28 (cs := [.str y_4.Alias, .int .i64 y_4.Key.Alg, .int .i64 y_4.Key.Bits, .int .i64 y_4.KeyId, .bool y_4.Secret, .sl 15 (encL api_Certificate.enc y_4.Chain)]) (.cons .str (.cons .int (.cons .int (.cons .int (.cons .bool (.cons .sl .nil)))))) rfl (l := ([y_4] : List api_Entry)) (f := api_Entry.enc) rfl) rfl rfl ?_
        obtain ⟨l_2, hl_2, hg⟩ := bind_some hg
        refine ch_s (rd := [0, 49]) rfl rfl (r_append sl22 api_Entry.enc_len .row rfl .row rfl hl_2 rfl) rfl rfl ?_
        refine go_ ?_
        refine ch_n fun hU => ?_
        refine awp_region (sys _ _ []) 73 97 hU rfl rfl ?_
        refine go_ ?_
        refine ch_n fun hU => ?_
        obtain rfl := Option.some.inj hg
        exact ⟨((i_6, W (k_2 + 1), l_2), m2), Nat.lt_succ_self _, hn2, sub_ [(0, 57)]⟩
    ·refine awp_exit ?_
     repeat first | refine st_ ?_ | refine sn_ ?_
     replace hg := leave hg hn2
     refine awp_seq ?_
     refine sr_ 1 25 mk_U ?_
     refine go_ ?_
     refine ch_n fun hU => ?_
     refine cg_ rfl hg (fun h29 hg => ?_) fun h29 hg => ?_
     ·refine awp_seq ?_
      refine awp_region (sys _ _ []) 25 41 hU rfl rfl ?_
      refine go_ ?_
      refine ch_n fun hU => ?_
      refine aw_r ?_
      obtain rfl := Option.some.inj hg
      exact fin_ [] ⟨rfl, rfl⟩
     ·refine awp_skip ?_
      repeat first | refine st_ ?_ | refine sn_ ?_
      refine sr_ 25 49 hU ?_
      refine go_ ?_
      refine ch_n fun hU => ?_
      refine aw_r ?_
      obtain rfl := Option.some.inj hg
      exact fin_ [] ⟨rfl, rfl⟩
end Go.Proofs.Ytbeageaekgccgaa
