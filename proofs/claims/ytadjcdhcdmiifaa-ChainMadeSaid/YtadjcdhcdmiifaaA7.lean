/- The program computes the plain functions. -/
import Derived.Test.YtadjcdhcdmiifaaT1
import Derived.Test.YtadjcdhcdmiifaaA3
import Derived.Test.YtadjcdhcdmiifaaA4
import Derived.Test.YtadjcdhcdmiifaaA5
import Derived.Test.YtadjcdhcdmiifaaA6
set_option linter.unusedVariables false
set_option linter.unusedSimpArgs false
set_option maxRecDepth 100000
set_option maxHeartbeats 1600000
namespace Go.Proofs.Ytadjcdhcdmiifaa
open Go.RowKit
theorem w_make_Key (d : cipherplanmake_Dice) (r : api_Use × cipherplanmake_Dice) (hg : g_make_Key d = some r) : Fn Try.prog 24 1 [.ptr 0 0] [.box [.sl 1 (encL eI d.L), .val (.int .i64 d.At)] 58] (fun d b => d = .agg [.val (.int .i64 r.1.Alg), .val (.int .i64 r.1.Bits)] ∧ b = [.box [.sl 1 (encL eI r.2.L), .val (.int .i64 r.2.At)] 58]) := by
 unfold g_make_Key at hg
 refine Fn.of Try.func24 rfl rfl rfl fun w0 I ρ0 => ?_
 show awp _ ⟨w0, I, ρ0, 1, 1, 12⟩ _ _ _
 refine sr_ 1 9 mk_U ?_
 refine c0_ rfl rfl (.alloc z40) rfl rfl ?_
 refine ch_n fun hU9_1 => ?_
 refine awp_seq ?_
 refine awp_region (sys _ _ [17]) 9 41 hU9_1 rfl rfl ?_
 refine c0_ rfl rfl .move rfl rfl ?_
 refine ch_z (rd := []) rfl rfl (r_buildFull sl22 z3 (by decide) rfl rfl rfl rfl ck3 (cs := [.int .i64 5, .int .i64 7, .int .i64 5, .int .i64 6, .int .i64 8, .int .i64 9]) (.cons .int (.cons .int (.cons .int (.cons .int (.cons .int (.cons .int .nil)))))) rfl (l := ([5, 7, 5, 6, 8, 9] : List Int)) (f := eI) rfl) rfl rfl rfl ?_
 obtain ⟨y, hy, hg⟩ := bind_some hg
 refine ch_callP (rd := [0]) (ps := [0]) (gs := []) false rfl (w_make_Dice_Of d ([5, 7, 5, 6, 8, 9] : List Int) _ hy) rfl rfl (.cons (.ptr rfl) (.cons .sl .nil)) ⟨_, _, _, rfl, .head _, ⟨_, rfl, (by repeat' (first | exact AgL.nil | apply AgL.cons | exact Ag.val | exact Ag.sl | exact Ag.nils))⟩, rfl⟩ rfl (by intro h; cases h) rfl rfl rfl rfl ?_
 refine c0_ rfl rfl .assign rfl rfl ?_
 refine ch_n fun hU41_2 => ?_
 refine sr_ 41 89 hU41_2 ?_
 iterate 3 refine c0_ rfl rfl .move rfl rfl ?_
 obtain ⟨y_2, hy_2, hg⟩ := bind_some hg
 refine ch_callP (rd := [0]) (ps := [0]) (gs := []) false rfl (w_make_size y.2 y.1 _ hy_2) rfl rfl (.cons (.ptr rfl) (.cons .val .nil)) ⟨_, _, _, rfl, .head _, ⟨_, rfl, (by repeat' (first | exact AgL.nil | apply AgL.cons | exact Ag.val | exact Ag.sl | exact Ag.nils))⟩, rfl⟩ rfl (by intro h; cases h) rfl rfl rfl rfl ?_
 refine c0_ rfl rfl (.build (r := [.val (.int .i64 y.1), .val (.int .i64 y_2.1)]) und40 pl40 z40 (by kernel_rfl) rfl) rfl rfl ?_
 refine ch_s (rd := [1]) rfl rfl (r_storeB (ds' := [.val (.int .i64 y.1), .val (.int .i64 y_2.1)]) ty40 rfl (Nat.le_of_ble_eq_true rfl) rfl rfl) rfl rfl ?_
 refine ch_n fun hU89_3 => ?_
 refine aw_r ?_
 obtain rfl := Option.some.inj hg
 exact ⟨[_], _, [_], [(0, 0)], .cons (.cellA rfl rfl ty40 rfl) .nil, ⟨rfl, rfl⟩, .agg (.cons (.val _) (.cons (.val _) .nil)), ⟨.inl ⟨0, _, rfl, rfl, ⟨rfl, .cons (.sl _ _) (.cons (.val _) .nil)⟩⟩, trivial⟩, rfl, rfl, rfl, rfl⟩
theorem w_make_Dice_One (d : cipherplanmake_Dice) (n : Int) (r : Bool × cipherplanmake_Dice) (hg : g_make_Dice_One d n = some r) : Fn Try.prog 28 1 [.ptr 0 0, .val (.int .i64 n)] [.box [.sl 1 (encL eI d.L), .val (.int .i64 d.At)] 58] (fun d b => d = .val (.bool r.1) ∧ b = [.box [.sl 1 (encL eI r.2.L), .val (.int .i64 r.2.At)] 58]) := by
 unfold g_make_Dice_One at hg
 refine Fn.of Try.func28 rfl rfl rfl fun w0 I ρ0 => ?_
 show awp _ ⟨w0, I, ρ0, 1, 1, 11⟩ _ _ _
 refine sr_ 1 9 mk_U ?_
 refine c0_ rfl rfl .assign rfl rfl ?_
 refine ch_n fun hU9_1 => ?_
 refine sr_ 9 65 hU9_1 ?_
 refine c0_ rfl rfl .move rfl rfl ?_
 refine c0_ rfl rfl .move rfl rfl ?_
 obtain ⟨y, hy, hg⟩ := bind_some hg
 refine ch_callP (rd := [0]) (ps := [0]) (gs := []) false rfl (w_make_Dice_Next d n _ hy) rfl rfl (.cons (.ptr rfl) (.cons .val .nil)) ⟨_, _, _, rfl, .head _, ⟨_, rfl, (by repeat' (first | exact AgL.nil | apply AgL.cons | exact Ag.val | exact Ag.sl | exact Ag.nils))⟩, rfl⟩ rfl (by intro h; cases h) rfl rfl rfl rfl ?_
 refine c0_ rfl rfl .move rfl rfl ?_
 refine c0_ rfl rfl r_sub rfl rfl ?_
 refine c0_ rfl rfl r_eql rfl rfl ?_
 refine c0_ rfl rfl .assign rfl rfl ?_
 refine ch_n fun hU65_2 => ?_
 refine aw_r ?_
 obtain rfl := Option.some.inj hg
 exact ⟨[_], _, [_], [(0, 0)], .cons (.tmp rfl) .nil, ⟨rfl, rfl⟩, .val _, ⟨.inl ⟨0, _, rfl, rfl, ⟨rfl, .cons (.sl _ _) (.cons (.val _) .nil)⟩⟩, trivial⟩, rfl, rfl, rfl, rfl⟩
theorem w_make_Certificate (d : cipherplanmake_Dice) (issuer : ByteArray) (subject : ByteArray) (key : api_Use) (id : Int) (signer : Int) (authority : Bool) (r : api_Certificate × cipherplanmake_Dice) (hg : g_make_Certificate d issuer subject key id signer authority = some r) : Fn Try.prog 39 1 [.ptr 0 0, .val (.string issuer), .val (.string subject), .agg [.val (.int .i64 key.Alg), .val (.int .i64 key.Bits)], .val (.int .i64 id), .val (.int .i64 signer), .val (.bool authority)] [.box [.sl 1 (encL eI d.L), .val (.int .i64 d.At)] 58] (fun d b => d = .agg [.val (.int .i64 r.1.Serial), .val (.string r.1.Issuer), .val (.string r.1.Subject), .val (.int .i64 r.1.Key.Alg), .val (.int .i64 r.1.Key.Bits), .val (.int .i64 r.1.KeyId), .val (.int .i64 r.1.Hash.Alg), .val (.int .i64 r.1.Hash.Bits), .val (.int .i64 r.1.From), .val (.int .i64 r.1.To), .val (.bool r.1.Authority), .val (.int .i64 r.1.Path), .sl 1 (encL eS r.1.Names), .val (.int .i64 r.1.Seal.Key), .val (.int .i64 r.1.Seal.Sum)] ∧ b = [.box [.sl 1 (encL eI r.2.L), .val (.int .i64 r.2.At)] 58]) := by
 unfold g_make_Certificate at hg
 refine Fn.of Try.func39 rfl rfl rfl fun w0 I ρ0 => ?_
 show awp _ ⟨w0, I, ρ0, 1, 1, 58⟩ _ _ _
 refine sr_ 1 17 mk_U ?_
 refine c0_ rfl rfl (.box rfl) rfl rfl ?_
 refine c0_ rfl rfl (.alloc z45) rfl rfl ?_
 refine ch_n fun hU17_1 => ?_
 refine awp_seq ?_
 refine awp_draw (sys _ _ [73, 105, 129]) (by kernel_rfl) [0, 1, 0, 0, 0, 0, 0, 0, 195, 451, 0, 0, 3523, 0, 0, 32195, 0, 131071, 0, 524287] 17 177 hU17_1 rfl rfl (by kernel_rfl) ?_
 refine c0_ rfl rfl .move rfl rfl ?_
 obtain ⟨y, hy, hg⟩ := bind_some hg
 refine ch_callP (rd := [0]) (ps := [0]) (gs := []) false rfl (w_make_Dice_Next d 1000 _ hy) rfl rfl (.cons (.ptr rfl) (.cons .val .nil)) ⟨_, _, _, rfl, .head _, ⟨_, rfl, (by repeat' (first | exact AgL.nil | apply AgL.cons | exact Ag.val | exact Ag.sl | exact Ag.nils))⟩, rfl⟩ rfl (by intro h; cases h) rfl rfl rfl rfl ?_
 refine c0_ rfl rfl .move rfl rfl ?_
 refine c0_ rfl rfl .move rfl rfl ?_
 refine ch_s (rd := [1]) rfl rfl (.loadBA ty40 (Nat.le_of_ble_eq_true rfl)) rfl rfl ?_
 refine c0_ rfl rfl .move rfl rfl ?_
 refine c0_ rfl rfl .move rfl rfl ?_
 refine ch_z (rd := []) rfl rfl (r_buildFull sl22 z3 (by decide) rfl rfl rfl rfl ck3 (cs := [.int .i64 3, .int .i64 2, .int .i64 4, .int .i64 1]) (.cons .int (.cons .int (.cons .int (.cons .int .nil)))) rfl (l := ([3, 2, 4, 1] : List Int)) (f := eI) rfl) rfl rfl rfl ?_
 obtain ⟨y_2, hy_2, hg⟩ := bind_some hg
 refine ch_callP (rd := [0]) (ps := [0]) (gs := []) false rfl (w_make_Dice_Of y.2 ([3, 2, 4, 1] : List Int) _ hy_2) rfl rfl (.cons (.ptr rfl) (.cons .sl .nil)) ⟨_, _, _, rfl, .head _, ⟨_, rfl, (by repeat' (first | exact AgL.nil | apply AgL.cons | exact Ag.val | exact Ag.sl | exact Ag.nils))⟩, rfl⟩ rfl (by intro h; cases h) rfl rfl rfl rfl ?_
 refine c0_ rfl rfl (.build (r := [.val (.int .i64 y_2.1), .val (.int .i64 0)]) und40 pl40 z40 (by kernel_rfl) rfl) rfl rfl ?_
 refine c0_ rfl rfl .move rfl rfl ?_
 refine ch_z (rd := []) rfl rfl (r_buildFull sl22 z3 (by decide) rfl rfl rfl rfl ck3 (cs := [.int .i64 0, .int .i64 5, .int .i64 10]) (.cons .int (.cons .int (.cons .int .nil))) rfl (l := ([0, 5, 10] : List Int)) (f := eI) rfl) rfl rfl rfl ?_
 obtain ⟨y_3, hy_3, hg⟩ := bind_some hg
 refine ch_callP (rd := [0]) (ps := [0]) (gs := []) false rfl (w_make_Dice_Of y_2.2 ([0, 5, 10] : List Int) _ hy_3) rfl rfl (.cons (.ptr rfl) (.cons .sl .nil)) ⟨_, _, _, rfl, .head _, ⟨_, rfl, (by repeat' (first | exact AgL.nil | apply AgL.cons | exact Ag.val | exact Ag.sl | exact Ag.nils))⟩, rfl⟩ rfl (by intro h; cases h) rfl rfl rfl rfl ?_
 refine c0_ rfl rfl .move rfl rfl ?_
 refine ch_z (rd := []) rfl rfl (r_buildFull sl22 z3 (by decide) rfl rfl rfl rfl ck3 (cs := [.int .i64 1000, .int .i64 100, .int .i64 50, .int .i64 20]) (.cons .int (.cons .int (.cons .int (.cons .int .nil)))) rfl (l := ([1000, 100, 50, 20] : List Int)) (f := eI) rfl) rfl rfl rfl ?_
 obtain ⟨y_4, hy_4, hg⟩ := bind_some hg
 refine ch_callP (rd := [0]) (ps := [0]) (gs := []) false rfl (w_make_Dice_Of y_3.2 ([1000, 100, 50, 20] : List Int) _ hy_4) rfl rfl (.cons (.ptr rfl) (.cons .sl .nil)) ⟨_, _, _, rfl, .head _, ⟨_, rfl, (by repeat' (first | exact AgL.nil | apply AgL.cons | exact Ag.val | exact Ag.sl | exact Ag.nils))⟩, rfl⟩ rfl (by intro h; cases h) rfl rfl rfl rfl ?_
 refine c0_ rfl rfl .move rfl rfl ?_
 refine c0_ rfl rfl (.build (r := [.val (.int .i64 y.1), .val (.string issuer), .val (.string subject), .val (.int .i64 key.Alg), .val (.int .i64 key.Bits), .val (.int .i64 id), .val (.int .i64 y_2.1), .val (.int .i64 0), .val (.int .i64 y_3.1), .val (.int .i64 y_4.1), .val (.bool authority), .val (.int .i64 0), .val (.slice none 0 0), .val (.int .i64 0), .val (.int .i64 0)]) und45 pl45 z45 (by kernel_rfl) rfl) rfl rfl ?_
 refine c0_ rfl rfl (.alloc z45) rfl rfl ?_
 refine ch_s (rd := [161]) rfl rfl (r_storeB (ds' := [.val (.int .i64 y.1), .val (.string issuer), .val (.string subject), .val (.int .i64 key.Alg), .val (.int .i64 key.Bits), .val (.int .i64 id), .val (.int .i64 y_2.1), .val (.int .i64 0), .val (.int .i64 y_3.1), .val (.int .i64 y_4.1), .val (.bool authority), .val (.int .i64 0), .val (.slice none 0 0), .val (.int .i64 0), .val (.int .i64 0)]) ty45 rfl (Nat.le_of_ble_eq_true rfl) rfl rfl) rfl rfl ?_
 refine ch_n fun hU177_2 => ?_
 refine awp_cut (ι := cipherplanmake_Dice × Int) (fun ((d_1, c_1) : cipherplanmake_Dice × Int) => mk [(0, .ptr 0 0), (2, .val (.string subject)), (5, .val (.int .i64 signer)), (14, .ptr 1 0), (15, .ptr 2 0)] [(0, .box [.sl 1 (encL eI d_1.L), .val (.int .i64 d_1.At)] 58), (1, .box [.val (.int .i64 0), .val (.string (⟨#[]⟩ : ByteArray)), .val (.string (⟨#[]⟩ : ByteArray)), .val (.int .i64 0), .val (.int .i64 0), .val (.int .i64 0), .val (.int .i64 0), .val (.int .i64 0), .val (.int .i64 0), .val (.int .i64 0), .val (.bool false), .val (.int .i64 0), .val (.slice none 0 0), .val (.int .i64 0), .val (.int .i64 0)] 45), (2, .box [.val (.int .i64 y.1), .val (.string issuer), .val (.string subject), .val (.int .i64 key.Alg), .val (.int .i64 key.Bits), .val (.int .i64 id), .val (.int .i64 y_2.1), .val (.int .i64 0), .val (.int .i64 y_3.1), .val (.int .i64 y_4.1), .val (.bool authority), .val (.int .i64 c_1), .val (.slice none 0 0), .val (.int .i64 0), .val (.int .i64 0)] 45)] 3) (fun ((d_1, c_1) : cipherplanmake_Dice × Int) => g_make_Certificate.j1 issuer subject key id signer authority y y_2 y_3 y_4 d_1 c_1 = some r) ?_ ?_
 ·refine awp_seq ?_
  refine awp_region (sys _ _ []) 177 185 hU177_2 rfl rfl ?_
  refine c0_ rfl rfl .move rfl rfl ?_
  refine ch_n fun hU185_3 => ?_
  refine awp_cond rfl (fun h4 => ?_) (fun h4 => ?_)
  ·replace hg := cond_t h4 hg
   refine awp_region (sys _ _ [193]) 185 225 hU185_3 rfl rfl ?_
   refine c0_ rfl rfl .move rfl rfl ?_
   refine ch_z (rd := []) rfl rfl (r_buildFull sl22 z3 (by decide) rfl rfl rfl rfl ck3 (cs := [.int .i64 3, .int .i64 0, .int .i64 1]) (.cons .int (.cons .int (.cons .int .nil))) rfl (l := ([3, 0, 1] : List Int)) (f := eI) rfl) rfl rfl rfl ?_
   obtain ⟨y_5, hy_5, hg⟩ := bind_some hg
   refine ch_callP (rd := [0]) (ps := [0]) (gs := []) false rfl (w_make_Dice_Of y_4.2 ([3, 0, 1] : List Int) _ hy_5) rfl rfl (.cons (.ptr rfl) (.cons .sl .nil)) ⟨_, _, _, rfl, .head _, ⟨_, rfl, (by repeat' (first | exact AgL.nil | apply AgL.cons | exact Ag.val | exact Ag.sl | exact Ag.nils))⟩, rfl⟩ rfl (by intro h; cases h) rfl rfl rfl rfl ?_
   refine c0_ rfl rfl (.fieldP fd45_9 ty3 (by decide)) rfl rfl ?_
   refine ch_s (rd := [161]) rfl rfl (r_storeB (ds' := [.val (.int .i64 y.1), .val (.string issuer), .val (.string subject), .val (.int .i64 key.Alg), .val (.int .i64 key.Bits), .val (.int .i64 id), .val (.int .i64 y_2.1), .val (.int .i64 0), .val (.int .i64 y_3.1), .val (.int .i64 y_4.1), .val (.bool authority), .val (.int .i64 y_5.1), .val (.slice none 0 0), .val (.int .i64 0), .val (.int .i64 0)]) ty3 rfl (Nat.le_of_ble_eq_true rfl) rfl rfl) rfl rfl ?_
   refine ch_n fun hU225_5 => ?_
   exact ⟨(y_5.2, y_5.1), hg, Sub.lists [(0, 0), (1, 9), (2, 161)] rfl rfl ⟨⟨_, rfl, .ptr rfl⟩, ⟨_, rfl, .val _⟩, ⟨_, rfl, .val _⟩, ⟨_, rfl, .ptr rfl⟩, ⟨_, rfl, .ptr rfl⟩, trivial⟩ ⟨.inl ⟨0, _, rfl, rfl, ⟨rfl, .cons (.sl _ _) (.cons (.val _) .nil)⟩⟩, .inl ⟨9, _, rfl, rfl, ⟨rfl, .cons (.val _) (.cons (.val _) (.cons (.val _) (.cons (.val _) (.cons (.val _) (.cons (.val _) (.cons (.val _) (.cons (.val _) (.cons (.val _) (.cons (.val _) (.cons (.val _) (.cons (.val _) (.cons (.val _) (.cons (.val _) (.cons (.val _) .nil))))))))))))))⟩⟩, .inl ⟨161, _, rfl, rfl, ⟨rfl, .cons (.val _) (.cons (.val _) (.cons (.val _) (.cons (.val _) (.cons (.val _) (.cons (.val _) (.cons (.val _) (.cons (.val _) (.cons (.val _) (.cons (.val _) (.cons (.val _) (.cons (.val _) (.cons (.val _) (.cons (.val _) (.cons (.val _) .nil))))))))))))))⟩⟩, trivial⟩⟩
  ·replace hg := cond_f h4 hg
   refine aw_s ?_
   exact ⟨(y_4.2, 0), hg, Sub.lists [(0, 0), (1, 9), (2, 161)] rfl rfl ⟨⟨_, rfl, .ptr rfl⟩, ⟨_, rfl, .val _⟩, ⟨_, rfl, .val _⟩, ⟨_, rfl, .ptr rfl⟩, ⟨_, rfl, .ptr rfl⟩, trivial⟩ ⟨.inl ⟨0, _, rfl, rfl, ⟨rfl, .cons (.sl _ _) (.cons (.val _) .nil)⟩⟩, .inl ⟨9, _, rfl, rfl, ⟨rfl, .cons (.val _) (.cons (.val _) (.cons (.val _) (.cons (.val _) (.cons (.val _) (.cons (.val _) (.cons (.val _) (.cons (.val _) (.cons (.val _) (.cons (.val _) (.cons (.val _) (.cons (.val _) (.cons (.val _) (.cons (.val _) (.cons (.val _) .nil))))))))))))))⟩⟩, .inl ⟨161, _, rfl, rfl, ⟨rfl, .cons (.val _) (.cons (.val _) (.cons (.val _) (.cons (.val _) (.cons (.val _) (.cons (.val _) (.cons (.val _) (.cons (.val _) (.cons (.val _) (.cons (.val _) (.cons (.val _) (.cons (.val _) (.cons (.val _) (.cons (.val _) (.cons (.val _) .nil))))))))))))))⟩⟩, trivial⟩⟩
 ·rintro ⟨d_1, c_1⟩ hg
  replace hg : g_make_Certificate.j1 issuer subject key id signer authority y y_2 y_3 y_4 d_1 c_1 = some r := hg
  show awp _ _ _ _ (mk _ _ _)
  unfold g_make_Certificate.j1 at hg
  refine sr_ 3 35 mk_U ?_
  refine c0_ rfl rfl .move rfl rfl ?_
  refine c0_ rfl rfl (r_buildFull sl41 z9 (by decide) rfl rfl rfl rfl ck9 (cs := [.str subject]) (.cons .str .nil) rfl (l := ([subject] : List ByteArray)) (f := eS) rfl) rfl rfl ?_
  refine c0_ rfl rfl (.fieldP fd45_10 ty41 (by decide)) rfl rfl ?_
  refine ch_s (rd := [2, 11]) rfl rfl (r_storeB (ds' := [.val (.int .i64 y.1), .val (.string issuer), .val (.string subject), .val (.int .i64 key.Alg), .val (.int .i64 key.Bits), .val (.int .i64 id), .val (.int .i64 y_2.1), .val (.int .i64 0), .val (.int .i64 y_3.1), .val (.int .i64 y_4.1), .val (.bool authority), .val (.int .i64 c_1), .row 11, .val (.int .i64 0), .val (.int .i64 0)]) ty41 rfl (Nat.le_of_ble_eq_true rfl) rfl rfl) rfl rfl ?_
  refine ch_n fun hU35_6 => ?_
  refine awp_cut (ι := cipherplanmake_Dice × List ByteArray) (fun ((b_2, l_2) : cipherplanmake_Dice × List ByteArray) => mk [(5, .val (.int .i64 signer)), (14, .ptr 1 0), (15, .ptr 2 0)] [(0, .box [.sl 1 (encL eI b_2.L), .val (.int .i64 b_2.At)] 58), (1, .box [.val (.int .i64 0), .val (.string (⟨#[]⟩ : ByteArray)), .val (.string (⟨#[]⟩ : ByteArray)), .val (.int .i64 0), .val (.int .i64 0), .val (.int .i64 0), .val (.int .i64 0), .val (.int .i64 0), .val (.int .i64 0), .val (.int .i64 0), .val (.bool false), .val (.int .i64 0), .val (.slice none 0 0), .val (.int .i64 0), .val (.int .i64 0)] 45), (2, .box [.val (.int .i64 y.1), .val (.string issuer), .val (.string subject), .val (.int .i64 key.Alg), .val (.int .i64 key.Bits), .val (.int .i64 id), .val (.int .i64 y_2.1), .val (.int .i64 0), .val (.int .i64 y_3.1), .val (.int .i64 y_4.1), .val (.bool authority), .val (.int .i64 c_1), .row 3, .val (.int .i64 0), .val (.int .i64 0)] 45), (3, .row 9 1 (encL eS l_2))] 4) (fun ((b_2, l_2) : cipherplanmake_Dice × List ByteArray) => g_make_Certificate.j2 issuer subject key id signer authority y y_2 y_3 y_4 c_1 b_2 l_2 = some r) ?_ ?_
  ·refine awp_seq ?_
   refine awp_region (sys _ _ []) 35 51 hU35_6 rfl rfl ?_
   refine c0_ rfl rfl .move rfl rfl ?_
   obtain ⟨y_6, hy_6, hg⟩ := bind_some hg
   refine ch_callP (rd := [0]) (ps := [0]) (gs := []) false rfl (w_make_Dice_One d_1 3 _ hy_6) rfl rfl (.cons (.ptr rfl) (.cons .val .nil)) ⟨_, _, _, rfl, .head _, ⟨_, rfl, (by repeat' (first | exact AgL.nil | apply AgL.cons | exact Ag.val | exact Ag.sl | exact Ag.nils))⟩, rfl⟩ rfl (by intro h; cases h) rfl rfl rfl rfl ?_
   refine ch_n fun hU51_7 => ?_
   refine awp_cond rfl (fun h8 => ?_) (fun h8 => ?_)
   ·replace hg := cond_t h8 hg
    refine awp_region (sys _ _ []) 51 115 hU51_7 rfl rfl ?_
    refine c0_ rfl rfl (.fieldP fd45_10 ty41 (by decide)) rfl rfl ?_
    refine ch_s (rd := [2]) rfl rfl (.loadB1 ty41 rfl) rfl rfl ?_
    refine c0_ rfl rfl .move rfl rfl ?_
    obtain ⟨s, hs, hg⟩ := bind_some hg
    refine c0_ rfl rfl (r_cat hs) rfl rfl ?_
    refine c0_ rfl rfl (r_buildFull sl41 z9 (by decide) rfl rfl rfl rfl ck9 (cs := [.str s]) (.cons .str .nil) rfl (l := ([s] : List ByteArray)) (f := eS) rfl) rfl rfl ?_
    obtain ⟨l, hl, hg⟩ := bind_some hg
    refine ch_s (rd := [11, 83]) rfl rfl (r_append sl41 eS_len .row rfl .row rfl hl rfl) rfl rfl ?_
    refine c0_ rfl rfl (.fieldP fd45_10 ty41 (by decide)) rfl rfl ?_
    refine ch_s (rd := [2, 91]) rfl rfl (r_storeB (ds' := [.val (.int .i64 y.1), .val (.string issuer), .val (.string subject), .val (.int .i64 key.Alg), .val (.int .i64 key.Bits), .val (.int .i64 id), .val (.int .i64 y_2.1), .val (.int .i64 0), .val (.int .i64 y_3.1), .val (.int .i64 y_4.1), .val (.bool authority), .val (.int .i64 c_1), .row 91, .val (.int .i64 0), .val (.int .i64 0)]) ty41 rfl (Nat.le_of_ble_eq_true rfl) rfl rfl) rfl rfl ?_
    refine ch_n fun hU115_9 => ?_
    exact ⟨(y_6.2, l), hg, Sub.lists [(0, 0), (1, 1), (2, 2), (3, 91)] rfl rfl ⟨⟨_, rfl, .val _⟩, ⟨_, rfl, .ptr rfl⟩, ⟨_, rfl, .ptr rfl⟩, trivial⟩ ⟨.inl ⟨0, _, rfl, rfl, ⟨rfl, .cons (.sl _ _) (.cons (.val _) .nil)⟩⟩, .inl ⟨1, _, rfl, rfl, ⟨rfl, .cons (.val _) (.cons (.val _) (.cons (.val _) (.cons (.val _) (.cons (.val _) (.cons (.val _) (.cons (.val _) (.cons (.val _) (.cons (.val _) (.cons (.val _) (.cons (.val _) (.cons (.val _) (.cons (.val _) (.cons (.val _) (.cons (.val _) .nil))))))))))))))⟩⟩, .inl ⟨2, _, rfl, rfl, ⟨rfl, .cons (.val _) (.cons (.val _) (.cons (.val _) (.cons (.val _) (.cons (.val _) (.cons (.val _) (.cons (.val _) (.cons (.val _) (.cons (.val _) (.cons (.val _) (.cons (.val _) (.cons (.val _) (.cons (.row rfl) (.cons (.val _) (.cons (.val _) .nil))))))))))))))⟩⟩, .inl ⟨91, _, rfl, rfl, ⟨rfl, rfl, rfl⟩⟩, trivial⟩⟩
   ·replace hg := cond_f h8 hg
    refine aw_s ?_
    exact ⟨(y_6.2, ([subject] : List ByteArray)), hg, Sub.lists [(0, 0), (1, 1), (2, 2), (3, 11)] rfl rfl ⟨⟨_, rfl, .val _⟩, ⟨_, rfl, .ptr rfl⟩, ⟨_, rfl, .ptr rfl⟩, trivial⟩ ⟨.inl ⟨0, _, rfl, rfl, ⟨rfl, .cons (.sl _ _) (.cons (.val _) .nil)⟩⟩, .inl ⟨1, _, rfl, rfl, ⟨rfl, .cons (.val _) (.cons (.val _) (.cons (.val _) (.cons (.val _) (.cons (.val _) (.cons (.val _) (.cons (.val _) (.cons (.val _) (.cons (.val _) (.cons (.val _) (.cons (.val _) (.cons (.val _) (.cons (.val _) (.cons (.val _) (.cons (.val _) .nil))))))))))))))⟩⟩, .inl ⟨2, _, rfl, rfl, ⟨rfl, .cons (.val _) (.cons (.val _) (.cons (.val _) (.cons (.val _) (.cons (.val _) (.cons (.val _) (.cons (.val _) (.cons (.val _) (.cons (.val _) (.cons (.val _) (.cons (.val _) (.cons (.val _) (.cons (.row rfl) (.cons (.val _) (.cons (.val _) .nil))))))))))))))⟩⟩, .inl ⟨11, _, rfl, rfl, ⟨rfl, rfl, rfl⟩⟩, trivial⟩⟩
  ·rintro ⟨b_2, l_2⟩ hg
   replace hg : g_make_Certificate.j2 issuer subject key id signer authority y y_2 y_3 y_4 c_1 b_2 l_2 = some r := hg
   show awp _ _ _ _ (mk _ _ _)
   unfold g_make_Certificate.j2 at hg
   refine awp_seq ?_
   refine awp_sub (σ' := mk [(5, .val (.int .i64 signer)), (14, .ptr 1 0), (15, .ptr 2 0)] [(0, .box [.sl 1 (encL eI b_2.L), .val (.int .i64 b_2.At)] 58), (1, .box [.val (.int .i64 0), .val (.string (⟨#[]⟩ : ByteArray)), .val (.string (⟨#[]⟩ : ByteArray)), .val (.int .i64 0), .val (.int .i64 0), .val (.int .i64 0), .val (.int .i64 0), .val (.int .i64 0), .val (.int .i64 0), .val (.int .i64 0), .val (.bool false), .val (.int .i64 0), .val (.slice none 0 0), .val (.int .i64 0), .val (.int .i64 0)] 45), (2, .box [.val (.int .i64 y.1), .val (.string issuer), .val (.string subject), .val (.int .i64 key.Alg), .val (.int .i64 key.Bits), .val (.int .i64 id), .val (.int .i64 y_2.1), .val (.int .i64 0), .val (.int .i64 y_3.1), .val (.int .i64 y_4.1), .val (.bool authority), .val (.int .i64 c_1), .sl 1 (encL eS l_2), .val (.int .i64 0), .val (.int .i64 0)] 45)] 3) (Sub.lists [(0, 0), (1, 1), (2, 2)] rfl rfl ⟨⟨_, rfl, .val _⟩, ⟨_, rfl, .ptr rfl⟩, ⟨_, rfl, .ptr rfl⟩, trivial⟩ ⟨.inl ⟨0, _, rfl, rfl, ⟨rfl, .cons (.sl _ _) (.cons (.val _) .nil)⟩⟩, .inl ⟨1, _, rfl, rfl, ⟨rfl, .cons (.val _) (.cons (.val _) (.cons (.val _) (.cons (.val _) (.cons (.val _) (.cons (.val _) (.cons (.val _) (.cons (.val _) (.cons (.val _) (.cons (.val _) (.cons (.val _) (.cons (.val _) (.cons (.val _) (.cons (.val _) (.cons (.val _) .nil))))))))))))))⟩⟩, .inl ⟨2, _, rfl, rfl, ⟨rfl, .cons (.val _) (.cons (.val _) (.cons (.val _) (.cons (.val _) (.cons (.val _) (.cons (.val _) (.cons (.val _) (.cons (.val _) (.cons (.val _) (.cons (.val _) (.cons (.val _) (.cons (.val _) (.cons (.frz rfl (look_ne rfl)) (.cons (.val _) (.cons (.val _) .nil))))))))))))))⟩⟩, trivial⟩) ?_
   refine awp_region (sys _ _ []) 3 59 mk_U rfl rfl ?_
   refine ch_s (rd := [2]) rfl rfl (.loadBA ty45 (Nat.le_of_ble_eq_true rfl)) rfl rfl ?_
   refine c0_ rfl rfl .move rfl rfl ?_
   obtain ⟨y_7, hy_7, hg⟩ := bind_some hg
   refine ch_callP (rd := []) (ps := []) (gs := []) false rfl (w_ref03_Sign (api_Certificate.mk y.1 issuer subject key id (api_Use.mk y_2.1 0) y_3.1 y_4.1 authority c_1 l_2 (api_Seal.mk 0 0)) signer _ hy_7) rfl rfl (.cons (.agg (.cons .val (.cons .val (.cons .val (.cons .val (.cons .val (.cons .val (.cons .val (.cons .val (.cons .val (.cons .val (.cons .val (.cons .val (.cons .sl (.cons .val (.cons .val .nil)))))))))))))))) (.cons .val .nil)) rfl rfl (by intro h; cases h) rfl rfl rfl rfl ?_
   refine c0_ rfl rfl .move rfl rfl ?_
   refine c0_ rfl rfl (.extract rfl) rfl rfl ?_
   refine c0_ rfl rfl (.extract rfl) rfl rfl ?_
   refine ch_s (rd := [2]) rfl rfl (r_storeB (ds' := [.val (.int .i64 y_7.1.Serial), .val (.string y_7.1.Issuer), .val (.string y_7.1.Subject), .val (.int .i64 y_7.1.Key.Alg), .val (.int .i64 y_7.1.Key.Bits), .val (.int .i64 y_7.1.KeyId), .val (.int .i64 y_7.1.Hash.Alg), .val (.int .i64 y_7.1.Hash.Bits), .val (.int .i64 y_7.1.From), .val (.int .i64 y_7.1.To), .val (.bool y_7.1.Authority), .val (.int .i64 y_7.1.Path), .sl 1 (encL eS y_7.1.Names), .val (.int .i64 y_7.1.Seal.Key), .val (.int .i64 y_7.1.Seal.Sum)]) ty45 rfl (Nat.le_of_ble_eq_true rfl) rfl rfl) rfl rfl ?_
   refine ch_n fun hU59_10 => ?_
   refine sr_ 59 75 hU59_10 ?_
   refine ch_s (rd := [2]) rfl rfl (.loadBA ty45 (Nat.le_of_ble_eq_true rfl)) rfl rfl ?_
   refine ch_s (rd := [1]) rfl rfl (r_storeB (ds' := [.val (.int .i64 y_7.1.Serial), .val (.string y_7.1.Issuer), .val (.string y_7.1.Subject), .val (.int .i64 y_7.1.Key.Alg), .val (.int .i64 y_7.1.Key.Bits), .val (.int .i64 y_7.1.KeyId), .val (.int .i64 y_7.1.Hash.Alg), .val (.int .i64 y_7.1.Hash.Bits), .val (.int .i64 y_7.1.From), .val (.int .i64 y_7.1.To), .val (.bool y_7.1.Authority), .val (.int .i64 y_7.1.Path), .sl 1 (encL eS y_7.1.Names), .val (.int .i64 y_7.1.Seal.Key), .val (.int .i64 y_7.1.Seal.Sum)]) ty45 rfl (Nat.le_of_ble_eq_true rfl) rfl rfl) rfl rfl ?_
   refine ch_n fun hU75_11 => ?_
   refine aw_r ?_
   obtain rfl := Option.some.inj hg
   exact ⟨[_], _, [_], [(0, 0)], .cons (.cellA rfl rfl ty45 rfl) .nil, ⟨rfl, rfl⟩, .agg (.cons (.val _) (.cons (.val _) (.cons (.val _) (.cons (.val _) (.cons (.val _) (.cons (.val _) (.cons (.val _) (.cons (.val _) (.cons (.val _) (.cons (.val _) (.cons (.val _) (.cons (.val _) (.cons (.sl _ _) (.cons (.val _) (.cons (.val _) .nil))))))))))))))), ⟨.inl ⟨0, _, rfl, rfl, ⟨rfl, .cons (.sl _ _) (.cons (.val _) .nil)⟩⟩, trivial⟩, rfl, rfl, rfl, rfl⟩
theorem w_make_Chain_own (d : cipherplanmake_Dice) (name : ByteArray) (key : api_Use) (id : Int) (r : (List api_Certificate) × cipherplanmake_Dice) (hg : g_make_Chain d name key id = some r) : Fn Try.prog 23 1 [.ptr 0 0, .val (.string name), .agg [.val (.int .i64 key.Alg), .val (.int .i64 key.Bits)], .val (.int .i64 id)] [.box [.sl 1 (encL eI d.L), .val (.int .i64 d.At)] 58] (fun d b => d = .row 1 ∧ b = [.box [.sl 1 (encL eI r.2.L), .val (.int .i64 r.2.At)] 58, .row 45 15 (encL api_Certificate.enc r.1)]) := by
 unfold g_make_Chain at hg
 refine Fn.of Try.func23 rfl rfl rfl fun w0 I ρ0 => ?_
 show awp _ ⟨w0, I, ρ0, 1, 1, 56⟩ _ _ _
 refine sr_ 1 17 mk_U ?_
 refine c0_ rfl rfl (.box rfl) rfl rfl ?_
 refine c0_ rfl rfl .assign rfl rfl ?_
 refine ch_n fun hU17_1 => ?_
 refine awp_seq ?_
 refine awp_region (sys _ _ [25]) 17 49 hU17_1 rfl rfl ?_
 refine c0_ rfl rfl .move rfl rfl ?_
 refine ch_z (rd := []) rfl rfl (r_buildFull sl22 z3 (by decide) rfl rfl rfl rfl ck3 (cs := [.int .i64 1, .int .i64 0, .int .i64 2]) (.cons .int (.cons .int (.cons .int .nil))) rfl (l := ([1, 0, 2] : List Int)) (f := eI) rfl) rfl rfl rfl ?_
 obtain ⟨y, hy, hg⟩ := bind_some hg
 refine ch_callP (rd := [0]) (ps := [0]) (gs := []) false rfl (w_make_Dice_Of d ([1, 0, 2] : List Int) _ hy) rfl rfl (.cons (.ptr rfl) (.cons .sl .nil)) ⟨_, _, _, rfl, .head _, ⟨_, rfl, (by repeat' (first | exact AgL.nil | apply AgL.cons | exact Ag.val | exact Ag.sl | exact Ag.nils))⟩, rfl⟩ rfl (by intro h; cases h) rfl rfl rfl rfl ?_
 refine c0_ rfl rfl .assign rfl rfl ?_
 refine ch_n fun hU49_2 => ?_
 refine sr_ 49 89 hU49_2 ?_
 refine c0_ rfl rfl .move rfl rfl ?_
 obtain ⟨y_2, hy_2, hg⟩ := bind_some hg
 refine ch_callP (rd := [0]) (ps := [0]) (gs := []) false rfl (w_make_Dice_Next y.2 2 _ hy_2) rfl rfl (.cons (.ptr rfl) (.cons .val .nil)) ⟨_, _, _, rfl, .head _, ⟨_, rfl, (by repeat' (first | exact AgL.nil | apply AgL.cons | exact Ag.val | exact Ag.sl | exact Ag.nils))⟩, rfl⟩ rfl (by intro h; cases h) rfl rfl rfl rfl ?_
 refine c0_ rfl rfl r_add rfl rfl ?_
 refine c0_ rfl rfl .assign rfl rfl ?_
 refine c0_ rfl rfl .assign rfl rfl ?_
 refine ch_n fun hU89_3 => ?_
 refine sr_ 89 97 hU89_3 ?_
 refine c0_ rfl rfl .assign rfl rfl ?_
 refine ch_n fun hU97_4 => ?_
 refine awp_seq ?_
 refine sr_ 97 105 hU97_4 ?_
 refine c0_ rfl rfl .assign rfl rfl ?_
 refine ch_n fun hU105_5 => ?_
 refine awp_block ?_
 obtain ⟨n1, hg⟩ := loop_some hg
 refine awp_loop (ι := (Int × ByteArray × Int × cipherplanmake_Dice × List api_Certificate) × Nat) (fun (((signer_1, issuer_1, i_1, d_1, above_1), _) : (Int × ByteArray × Int × cipherplanmake_Dice × List api_Certificate) × Nat) => mk [(0, .ptr 0 0), (1, .val (.string name)), (3, .val (.int .i64 id)), (6, .ptr 1 0), (9, .val (.int .i64 y.1)), (10, .val (.int .i64 signer_1)), (11, .val (.string issuer_1)), (12, .row 2), (13, .val (.int .i64 i_1))] [(0, .box [.sl 1 (encL eI d_1.L), .val (.int .i64 d_1.At)] 58), (1, .box [.val (.int .i64 key.Alg), .val (.int .i64 key.Bits)] 40), (2, .row 45 15 (encL api_Certificate.enc above_1))] 3) (fun (((signer_1, issuer_1, i_1, d_1, above_1), nq') : (Int × ByteArray × Int × cipherplanmake_Dice × List api_Certificate) × Nat) => iter (fun q' => g_make_Chain.l1 name key id y q'.1 q'.2.1 q'.2.2.1 q'.2.2.2.1 q'.2.2.2.2) nq' (signer_1, issuer_1, i_1, d_1, above_1) = some r) (fun q => q.2) ((W (1 + y_2.1), (⟨#[114, 111, 111, 116]⟩ : ByteArray), 0, y_2.2, ([] : List api_Certificate)), n1) (Sub.lists [(0, 0), (1, 1)] rfl rfl ⟨⟨_, rfl, .ptr rfl⟩, ⟨_, rfl, .val _⟩, ⟨_, rfl, .val _⟩, ⟨_, rfl, .ptr rfl⟩, ⟨_, rfl, .val _⟩, ⟨_, rfl, .val _⟩, ⟨_, rfl, .val _⟩, ⟨_, rfl, .nil rfl⟩, ⟨_, rfl, .val _⟩, trivial⟩ ⟨.inl ⟨0, _, rfl, rfl, ⟨rfl, .cons (.sl _ _) (.cons (.val _) .nil)⟩⟩, .inl ⟨1, _, rfl, rfl, ⟨rfl, .cons (.val _) (.cons (.val _) .nil)⟩⟩, .inr ⟨rfl, _, _, rfl⟩, trivial⟩) hg ?_
 rintro ⟨⟨signer_1, issuer_1, i_1, d_1, above_1⟩, n1⟩ hg
 obtain ⟨m1, o1, rfl, hg, hn1⟩ := iter_some (show iter (fun q' => g_make_Chain.l1 name key id y q'.1 q'.2.1 q'.2.2.1 q'.2.2.2.1 q'.2.2.2.2) n1 (signer_1, issuer_1, i_1, d_1, above_1) = some r from hg)
 replace hg : g_make_Chain.l1 name key id y signer_1 issuer_1 i_1 d_1 above_1 = some o1 := hg
 show awp _ _ _ _ (mk _ _ _)
 unfold g_make_Chain.l1 at hg
 refine awp_seq ?_
 refine sr_ 3 27 mk_U ?_
 refine c0_ rfl rfl .move rfl rfl ?_
 refine c0_ rfl rfl .move rfl rfl ?_
 refine c0_ rfl rfl r_lss rfl rfl ?_
 refine ch_n fun hU27_6 => ?_
 refine awp_cond rfl (fun h7 => ?_) (fun h7 => ?_)
 ·replace hg := cond_t h7 hg
  refine aw_s ?_
  refine awp_seq ?_
  refine awp_block ?_
  refine sr_ 27 67 hU27_6 ?_
  refine c0_ rfl rfl (r_buildFull sl41 z9 (by decide) rfl rfl rfl rfl ck9 (cs := [.str (⟨#[99, 97]⟩ : ByteArray), .str (⟨#[99, 98]⟩ : ByteArray), .str (⟨#[99, 99]⟩ : ByteArray)]) (.cons .str (.cons .str (.cons .str .nil))) rfl (l := ([(⟨#[99, 97]⟩ : ByteArray), (⟨#[99, 98]⟩ : ByteArray), (⟨#[99, 99]⟩ : ByteArray)] : List ByteArray)) (f := eS) rfl) rfl rfl ?_
  refine c0_ rfl rfl .move rfl rfl ?_
  obtain ⟨e, he, hg⟩ := bind_some hg
  refine ch_s (rd := [27]) rfl rfl (r_idxR sl41 eS_len (getI_ix he) (getI_at he)) rfl rfl ?_
  refine ch_s (rd := [27]) rfl rfl (.loadR1 ty9 (enc_cell eS_len (getI_at he) (o := 0) (c := .str e) rfl rfl)) rfl rfl ?_
  refine c0_ rfl rfl .assign rfl rfl ?_
  refine ch_n fun hU67_8 => ?_
  refine sr_ 67 147 hU67_8 ?_
  iterate 3 refine c0_ rfl rfl .move rfl rfl ?_
  refine c0_ rfl rfl (.build (r := [.val (.int .i64 5), .val (.int .i64 2048)]) und40 pl40 z40 (by kernel_rfl) rfl) rfl rfl ?_
  refine c0_ rfl rfl .move rfl rfl ?_
  refine c0_ rfl rfl r_add rfl rfl ?_
  refine c0_ rfl rfl .move rfl rfl ?_
  obtain ⟨y_3, hy_3, hg⟩ := bind_some hg
  refine ch_callP (rd := [0]) (ps := [0]) (gs := []) false rfl (w_make_Certificate d_1 issuer_1 e (api_Use.mk 5 2048) (W (11 + i_1)) signer_1 true _ hy_3) rfl rfl (.cons (.ptr rfl) (.cons .val (.cons .val (.cons (.agg (.cons .val (.cons .val .nil))) (.cons .val (.cons .val (.cons .val .nil))))))) ⟨_, _, _, rfl, .head _, ⟨_, rfl, (by repeat' (first | exact AgL.nil | apply AgL.cons | exact Ag.val | exact Ag.sl | exact Ag.nils))⟩, rfl⟩ rfl (by intro h; cases h) rfl rfl rfl rfl ?_
  refine c0_ rfl rfl (.alloc z45) rfl rfl ?_
  refine ch_s (rd := [131]) rfl rfl (r_storeB (ds' := [.val (.int .i64 y_3.1.Serial), .val (.string y_3.1.Issuer), .val (.string y_3.1.Subject), .val (.int .i64 y_3.1.Key.Alg), .val (.int .i64 y_3.1.Key.Bits), .val (.int .i64 y_3.1.KeyId), .val (.int .i64 y_3.1.Hash.Alg), .val (.int .i64 y_3.1.Hash.Bits), .val (.int .i64 y_3.1.From), .val (.int .i64 y_3.1.To), .val (.bool y_3.1.Authority), .val (.int .i64 y_3.1.Path), .sl 1 (encL eS y_3.1.Names), .val (.int .i64 y_3.1.Seal.Key), .val (.int .i64 y_3.1.Seal.Sum)]) ty45 rfl (Nat.le_of_ble_eq_true rfl) rfl rfl) rfl rfl ?_
  refine ch_n fun hU147_9 => ?_
  refine sr_ 147 187 hU147_9 ?_
  refine ch_s (rd := [131]) rfl rfl (.loadBA ty45 (Nat.le_of_ble_eq_true rfl)) rfl rfl ?_
  refine c0_ rfl rfl (r_buildFull sl27 z45 (by decide) rfl rfl rfl rfl ck45 (cs := [.int .i64 y_3.1.Serial, .str y_3.1.Issuer, .str y_3.1.Subject, .int .i64 y_3.1.Key.Alg, .int .i64 y_3.1.Key.Bits, .int .i64 y_3.1.KeyId, .int .i64 y_3.1.Hash.Alg, .int .i64 y_3.1.Hash.Bits, .int .i64 y_3.1.From, .int .i64 y_3.1.To, .bool y_3.1.Authority, .int .i64 y_3.1.Path, .sl 1 (encL eS y_3.1.Names), .int .i64 y_3.1.Seal.Key, .int .i64 y_3.1.Seal.Sum]) (.cons .int (.cons .str (.cons .str (.cons .int (.cons .int (.cons .int (.cons .int (.cons .int (.cons .int (.cons .int (.cons .bool (.cons .int (.cons .sl (.cons .int (.cons .int .nil))))))))))))))) rfl (l := ([y_3.1] : List api_Certificate)) (f := api_Certificate.enc) rfl) rfl rfl ?_
  refine c0_ rfl rfl .move rfl rfl ?_
  obtain ⟨l, hl, hg⟩ := bind_some hg
  refine ch_s (rd := [155, 2]) rfl rfl (r_append sl27 api_Certificate.enc_len .row rfl .row rfl hl rfl) rfl rfl ?_
  refine c0_ rfl rfl .assign rfl rfl ?_
  refine ch_n fun hU187_10 => ?_
  refine awp_region (sys _ _ []) 187 227 hU187_10 rfl rfl ?_
  refine c0_ rfl rfl .move rfl rfl ?_
  refine c0_ rfl rfl r_add rfl rfl ?_
  refine c0_ rfl rfl .move rfl rfl ?_
  refine c0_ rfl rfl .assign rfl rfl ?_
  refine c0_ rfl rfl .assign rfl rfl ?_
  refine ch_n fun hU227_11 => ?_
  refine awp_region (sys _ _ []) 227 251 hU227_11 rfl rfl ?_
  refine c0_ rfl rfl .move rfl rfl ?_
  refine c0_ rfl rfl r_add rfl rfl ?_
  refine c0_ rfl rfl .assign rfl rfl ?_
  refine ch_n fun hU251_12 => ?_
  obtain rfl := Option.some.inj hg
  exact ⟨((W (11 + i_1), e, W (i_1 + 1), y_3.2, l), m1), Nat.lt_succ_self _, hn1, Sub.lists [(0, 0), (1, 1), (2, 171)] rfl rfl ⟨⟨_, rfl, .ptr rfl⟩, ⟨_, rfl, .val _⟩, ⟨_, rfl, .val _⟩, ⟨_, rfl, .ptr rfl⟩, ⟨_, rfl, .val _⟩, ⟨_, rfl, .val _⟩, ⟨_, rfl, .val _⟩, ⟨_, rfl, .row rfl⟩, ⟨_, rfl, .val _⟩, trivial⟩ ⟨.inl ⟨0, _, rfl, rfl, ⟨rfl, .cons (.sl _ _) (.cons (.val _) .nil)⟩⟩, .inl ⟨1, _, rfl, rfl, ⟨rfl, .cons (.val _) (.cons (.val _) .nil)⟩⟩, .inl ⟨171, _, rfl, rfl, ⟨rfl, rfl, rfl⟩⟩, trivial⟩⟩
 ·replace hg := cond_f h7 hg
  refine awp_exit ?_
  repeat first | refine st_ ?_ | refine sn_ ?_
  replace hg := leave hg hn1
  refine sr_ 27 115 hU27_6 ?_
  iterate 3 refine c0_ rfl rfl .move rfl rfl ?_
  refine ch_s (rd := [1]) rfl rfl (.loadBA ty40 (Nat.le_of_ble_eq_true rfl)) rfl rfl ?_
  refine c0_ rfl rfl .move rfl rfl ?_
  refine c0_ rfl rfl .move rfl rfl ?_
  obtain ⟨y_4, hy_4, hg⟩ := bind_some hg
  refine ch_callP (rd := [0]) (ps := [0]) (gs := []) false rfl (w_make_Certificate d_1 issuer_1 name key id signer_1 false _ hy_4) rfl rfl (.cons (.ptr rfl) (.cons .val (.cons .val (.cons (.agg (.cons .val (.cons .val .nil))) (.cons .val (.cons .val (.cons .val .nil))))))) ⟨_, _, _, rfl, .head _, ⟨_, rfl, (by repeat' (first | exact AgL.nil | apply AgL.cons | exact Ag.val | exact Ag.sl | exact Ag.nils))⟩, rfl⟩ rfl (by intro h; cases h) rfl rfl rfl rfl ?_
  refine c0_ rfl rfl (r_buildFull sl27 z45 (by decide) rfl rfl rfl rfl ck45 (cs := [.int .i64 y_4.1.Serial, .str y_4.1.Issuer, .str y_4.1.Subject, .int .i64 y_4.1.Key.Alg, .int .i64 y_4.1.Key.Bits, .int .i64 y_4.1.KeyId, .int .i64 y_4.1.Hash.Alg, .int .i64 y_4.1.Hash.Bits, .int .i64 y_4.1.From, .int .i64 y_4.1.To, .bool y_4.1.Authority, .int .i64 y_4.1.Path, .sl 1 (encL eS y_4.1.Names), .int .i64 y_4.1.Seal.Key, .int .i64 y_4.1.Seal.Sum]) (.cons .int (.cons .str (.cons .str (.cons .int (.cons .int (.cons .int (.cons .int (.cons .int (.cons .int (.cons .int (.cons .bool (.cons .int (.cons .sl (.cons .int (.cons .int .nil))))))))))))))) rfl (l := ([y_4.1] : List api_Certificate)) (f := api_Certificate.enc) rfl) rfl rfl ?_
  refine c0_ rfl rfl .move rfl rfl ?_
  obtain ⟨l_2, hl_2, hg⟩ := bind_some hg
  refine ch_s (rd := [83, 2]) rfl rfl (r_append sl27 api_Certificate.enc_len .row rfl .row rfl hl_2 rfl) rfl rfl ?_
  refine c0_ rfl rfl .assign rfl rfl ?_
  refine ch_n fun hU115_13 => ?_
  refine aw_r ?_
  obtain rfl := Option.some.inj hg
  exact ⟨[_], _, [_, _], [(0, 0), (1, 99)], .cons (.tmp rfl) .nil, ⟨rfl, rfl⟩, .row rfl, ⟨.inl ⟨0, _, rfl, rfl, ⟨rfl, .cons (.sl _ _) (.cons (.val _) .nil)⟩⟩, .inl ⟨99, _, rfl, rfl, ⟨rfl, rfl, rfl⟩⟩, trivial⟩, rfl, rfl, rfl, rfl⟩
theorem w_law04_made (d : cipherplanmake_Dice) (r : (List api_Certificate) × cipherplanmake_Dice) (hg : g_law04_made d = some r) : Fn Try.prog 10 1 [.ptr 0 0] [.box [.sl 1 (encL eI d.L), .val (.int .i64 d.At)] 58] (fun d b => d = .sl 15 (encL api_Certificate.enc r.1) ∧ b = [.box [.sl 1 (encL eI r.2.L), .val (.int .i64 r.2.At)] 58]) := by
 unfold g_law04_made at hg
 refine Fn.of Try.func10 rfl rfl rfl fun w0 I ρ0 => ?_
 show awp _ ⟨w0, I, ρ0, 1, 1, 146⟩ _ _ _
 refine sr_ 1 9 mk_U ?_
 refine c0_ rfl rfl .assign rfl rfl ?_
 refine ch_n fun hU9_1 => ?_
 refine sr_ 9 49 hU9_1 ?_
 refine c0_ rfl rfl .move rfl rfl ?_
 refine c0_ rfl rfl .move rfl rfl ?_
 obtain ⟨y, hy, hg⟩ := bind_some hg
 refine ch_callP (rd := [0]) (ps := [0]) (gs := []) false rfl (w_make_Key d _ hy) rfl rfl (.cons (.ptr rfl) .nil) ⟨_, _, _, rfl, .head _, ⟨_, rfl, (by repeat' (first | exact AgL.nil | apply AgL.cons | exact Ag.val | exact Ag.sl | exact Ag.nils))⟩, rfl⟩ rfl (by intro h; cases h) rfl rfl rfl rfl ?_
 obtain ⟨y_2, hy_2, hg⟩ := bind_some hg
 refine ch_call (rd := [0]) (ps := [0]) (gs := []) false rfl (w_make_Chain_own y.2 (⟨#[119, 101, 98]⟩ : ByteArray) y.1 100 _ hy_2) rfl rfl (.cons (.ptr rfl) (.cons .val (.cons (.agg (.cons .val (.cons .val .nil))) (.cons .val .nil)))) ⟨_, _, _, rfl, .head _, ⟨_, rfl, (by repeat' (first | exact AgL.nil | apply AgL.cons | exact Ag.val | exact Ag.sl | exact Ag.nils))⟩, rfl⟩ rfl (by intro h; cases h) rfl (by intro h; first | (cases h; done) | exact ⟨_, _, ⟨rfl, rfl⟩, by simp, by simp⟩) ?_
 rintro _ _ ⟨rfl, rfl⟩
 refine c0_ rfl rfl .assign rfl rfl ?_
 refine ch_n fun hU49_2 => ?_
 refine sr_ 49 105 hU49_2 ?_
 iterate 3 refine c0_ rfl rfl .move rfl rfl ?_
 refine ch_s (rd := [33]) rfl rfl (r_lenR sl27 api_Certificate.enc_len) rfl rfl ?_
 obtain ⟨y_3, hy_3, hg⟩ := bind_some hg
 refine ch_callP (rd := [0]) (ps := [0]) (gs := []) false rfl (w_make_Dice_Next y_2.2 (y_2.1.length : Int) _ hy_3) rfl rfl (.cons (.ptr rfl) (.cons .val .nil)) ⟨_, _, _, rfl, .head _, ⟨_, rfl, (by repeat' (first | exact AgL.nil | apply AgL.cons | exact Ag.val | exact Ag.sl | exact Ag.nils))⟩, rfl⟩ rfl (by intro h; cases h) rfl rfl rfl rfl ?_
 obtain ⟨e, he, hg⟩ := bind_some hg
 refine ch_s (rd := [33]) rfl rfl (r_idxR sl27 api_Certificate.enc_len (getI_ix he) (getI_at he)) rfl rfl ?_
 refine c0_ rfl rfl .assign rfl rfl ?_
 refine ch_n fun hU105_3 => ?_
 refine awp_cutO (ι := cipherplanmake_Dice × List api_Certificate) (fun ((d_3, l_3) : cipherplanmake_Dice × List api_Certificate) => mk [(0, .ptr 0 0), (3, .row 1)] [(0, .box [.sl 1 (encL eI d_3.L), .val (.int .i64 d_3.At)] 58), (1, .row 45 15 (encL api_Certificate.enc l_3))] 2) (fun ((d_3, l_3) : cipherplanmake_Dice × List api_Certificate) => g_law04_made.j3 d_3 l_3 = some r) ?_ ?_
 ·refine awp_seq ?_
  refine awp_region (sys _ _ []) 105 121 hU105_3 rfl rfl ?_
  refine c0_ rfl rfl .move rfl rfl ?_
  obtain ⟨y_4, hy_4, hg⟩ := bind_some hg
  refine ch_callP (rd := [0]) (ps := [0]) (gs := []) false rfl (w_make_Dice_Next y_3.2 14 _ hy_4) rfl rfl (.cons (.ptr rfl) (.cons .val .nil)) ⟨_, _, _, rfl, .head _, ⟨_, rfl, (by repeat' (first | exact AgL.nil | apply AgL.cons | exact Ag.val | exact Ag.sl | exact Ag.nils))⟩, rfl⟩ rfl (by intro h; cases h) rfl rfl rfl rfl ?_
  refine ch_n fun hU121_4 => ?_
  refine awp_block ?_
  refine sr_ 121 137 hU121_4 ?_
  refine c0_ rfl rfl r_eql rfl rfl ?_
  refine c0_ rfl rfl .assign rfl rfl ?_
  refine ch_n fun hU137_5 => ?_
  refine awp_cond rfl (fun h6 => ?_) (fun h6 => ?_)
  ·replace hg := cond_t h6 hg
   refine awp_region (sys _ _ []) 137 201 hU137_5 rfl rfl ?_
   refine c0_ rfl rfl .move rfl rfl ?_
   refine c0_ rfl rfl .nilP rfl rfl ?_
   refine c0_ rfl rfl (.fieldP fd45_0 ty3 (by decide)) rfl rfl ?_
   refine ch_s (rd := [33]) rfl rfl (.loadR1 ty3 (enc_cell api_Certificate.enc_len (getI_at he) (o := 0) (c := .int .i64 e.Serial) rfl rfl)) rfl rfl ?_
   refine c0_ rfl rfl r_add rfl rfl ?_
   refine c0_ rfl rfl .nilP rfl rfl ?_
   refine c0_ rfl rfl (.fieldP fd45_0 ty3 (by decide)) rfl rfl ?_
   refine ch_s (rd := [33]) rfl rfl (r_storeR ty3 rfl (enc_cells_le api_Certificate.enc_len (getI_at he) (o := 0) (m := 1) (by decide) rfl) ck3 (cs' := [.int .i64 (W (e.Serial + 1))]) (.cons .int .nil) (enc_splice api_Certificate.enc_len (getI_at he) (o := 0) (x' := (api_Certificate.mk (W (e.Serial + 1)) e.Issuer e.Subject e.Key e.KeyId e.Hash e.From e.To e.Authority e.Path e.Names e.Seal)) (Nat.le_of_ble_eq_true rfl) rfl rfl)) rfl rfl ?_
   refine ch_n fun hU201_7 => ?_
   exact .inl ⟨(y_4.2, setI y_2.1 ((y_3.1).toNat) (api_Certificate.mk (W (e.Serial + 1)) e.Issuer e.Subject e.Key e.KeyId e.Hash e.From e.To e.Authority e.Path e.Names e.Seal)), hg, Sub.lists [(0, 0), (1, 33)] rfl rfl ⟨⟨_, rfl, .ptr rfl⟩, ⟨_, rfl, .row rfl⟩, trivial⟩ ⟨.inl ⟨0, _, rfl, rfl, ⟨rfl, .cons (.sl _ _) (.cons (.val _) .nil)⟩⟩, .inl ⟨33, _, rfl, rfl, ⟨rfl, rfl, rfl⟩⟩, trivial⟩⟩
  ·replace hg := cond_f h6 hg
   refine sr_ 137 153 hU137_5 ?_
   refine c0_ rfl rfl r_eql rfl rfl ?_
   refine c0_ rfl rfl .assign rfl rfl ?_
   refine ch_n fun hU153_8 => ?_
   refine awp_cond rfl (fun h9 => ?_) (fun h9 => ?_)
   ·replace hg := cond_t h9 hg
    refine awp_region (sys _ _ []) 153 185 hU153_8 rfl rfl ?_
    refine c0_ rfl rfl .move rfl rfl ?_
    refine c0_ rfl rfl .nilP rfl rfl ?_
    refine c0_ rfl rfl (.fieldP fd45_1 ty9 (by decide)) rfl rfl ?_
    refine ch_s (rd := [33]) rfl rfl (r_storeR ty9 rfl (enc_cells_le api_Certificate.enc_len (getI_at he) (o := 1) (m := 1) (by decide) rfl) ck9 (cs' := [.str (⟨#[120]⟩ : ByteArray)]) (.cons .str .nil) (enc_splice api_Certificate.enc_len (getI_at he) (o := 1) (x' := (api_Certificate.mk e.Serial (⟨#[120]⟩ : ByteArray) e.Subject e.Key e.KeyId e.Hash e.From e.To e.Authority e.Path e.Names e.Seal)) (Nat.le_of_ble_eq_true rfl) rfl rfl)) rfl rfl ?_
    refine ch_n fun hU185_10 => ?_
    exact .inl ⟨(y_4.2, setI y_2.1 ((y_3.1).toNat) (api_Certificate.mk e.Serial (⟨#[120]⟩ : ByteArray) e.Subject e.Key e.KeyId e.Hash e.From e.To e.Authority e.Path e.Names e.Seal)), hg, Sub.lists [(0, 0), (1, 33)] rfl rfl ⟨⟨_, rfl, .ptr rfl⟩, ⟨_, rfl, .row rfl⟩, trivial⟩ ⟨.inl ⟨0, _, rfl, rfl, ⟨rfl, .cons (.sl _ _) (.cons (.val _) .nil)⟩⟩, .inl ⟨33, _, rfl, rfl, ⟨rfl, rfl, rfl⟩⟩, trivial⟩⟩
   ·replace hg := cond_f h9 hg
    refine sr_ 153 169 hU153_8 ?_
    refine c0_ rfl rfl r_eql rfl rfl ?_
    refine c0_ rfl rfl .assign rfl rfl ?_
    refine ch_n fun hU169_11 => ?_
    refine awp_cond rfl (fun h12 => ?_) (fun h12 => ?_)
    ·replace hg := cond_t h12 hg
     refine awp_region (sys _ _ []) 169 201 hU169_11 rfl rfl ?_
     refine c0_ rfl rfl .move rfl rfl ?_
     refine c0_ rfl rfl .nilP rfl rfl ?_
     refine c0_ rfl rfl (.fieldP fd45_2 ty9 (by decide)) rfl rfl ?_
     refine ch_s (rd := [33]) rfl rfl (r_storeR ty9 rfl (enc_cells_le api_Certificate.enc_len (getI_at he) (o := 2) (m := 1) (by decide) rfl) ck9 (cs' := [.str (⟨#[120]⟩ : ByteArray)]) (.cons .str .nil) (enc_splice api_Certificate.enc_len (getI_at he) (o := 2) (x' := (api_Certificate.mk e.Serial e.Issuer (⟨#[120]⟩ : ByteArray) e.Key e.KeyId e.Hash e.From e.To e.Authority e.Path e.Names e.Seal)) (Nat.le_of_ble_eq_true rfl) rfl rfl)) rfl rfl ?_
     refine ch_n fun hU201_13 => ?_
     exact .inl ⟨(y_4.2, setI y_2.1 ((y_3.1).toNat) (api_Certificate.mk e.Serial e.Issuer (⟨#[120]⟩ : ByteArray) e.Key e.KeyId e.Hash e.From e.To e.Authority e.Path e.Names e.Seal)), hg, Sub.lists [(0, 0), (1, 33)] rfl rfl ⟨⟨_, rfl, .ptr rfl⟩, ⟨_, rfl, .row rfl⟩, trivial⟩ ⟨.inl ⟨0, _, rfl, rfl, ⟨rfl, .cons (.sl _ _) (.cons (.val _) .nil)⟩⟩, .inl ⟨33, _, rfl, rfl, ⟨rfl, rfl, rfl⟩⟩, trivial⟩⟩
    ·replace hg := cond_f h12 hg
     refine sr_ 169 185 hU169_11 ?_
     refine c0_ rfl rfl r_eql rfl rfl ?_
     refine c0_ rfl rfl .assign rfl rfl ?_
     refine ch_n fun hU185_14 => ?_
     refine awp_cond rfl (fun h15 => ?_) (fun h15 => ?_)
     ·replace hg := cond_t h15 hg
      refine awp_region (sys _ _ []) 185 217 hU185_14 rfl rfl ?_
      refine c0_ rfl rfl .move rfl rfl ?_
      refine c0_ rfl rfl .nilP rfl rfl ?_
      refine c0_ rfl rfl (.fieldP fd45_4 ty3 (by decide)) rfl rfl ?_
      refine ch_s (rd := [33]) rfl rfl (r_storeR ty3 rfl (enc_cells_le api_Certificate.enc_len (getI_at he) (o := 5) (m := 1) (by decide) rfl) ck3 (cs' := [.int .i64 55]) (.cons .int .nil) (enc_splice api_Certificate.enc_len (getI_at he) (o := 5) (x' := (api_Certificate.mk e.Serial e.Issuer e.Subject e.Key 55 e.Hash e.From e.To e.Authority e.Path e.Names e.Seal)) (Nat.le_of_ble_eq_true rfl) rfl rfl)) rfl rfl ?_
      refine ch_n fun hU217_16 => ?_
      exact .inl ⟨(y_4.2, setI y_2.1 ((y_3.1).toNat) (api_Certificate.mk e.Serial e.Issuer e.Subject e.Key 55 e.Hash e.From e.To e.Authority e.Path e.Names e.Seal)), hg, Sub.lists [(0, 0), (1, 33)] rfl rfl ⟨⟨_, rfl, .ptr rfl⟩, ⟨_, rfl, .row rfl⟩, trivial⟩ ⟨.inl ⟨0, _, rfl, rfl, ⟨rfl, .cons (.sl _ _) (.cons (.val _) .nil)⟩⟩, .inl ⟨33, _, rfl, rfl, ⟨rfl, rfl, rfl⟩⟩, trivial⟩⟩
     ·replace hg := cond_f h15 hg
      refine sr_ 185 201 hU185_14 ?_
      refine c0_ rfl rfl r_eql rfl rfl ?_
      refine c0_ rfl rfl .assign rfl rfl ?_
      refine ch_n fun hU201_17 => ?_
      refine awp_cond rfl (fun h18 => ?_) (fun h18 => ?_)
      ·replace hg := cond_t h18 hg
       refine awp_region (sys _ _ []) 201 305 hU201_17 rfl rfl ?_
       iterate 3 refine c0_ rfl rfl .move rfl rfl ?_
       refine c0_ rfl rfl .nilP rfl rfl ?_
       refine c0_ rfl rfl (.fieldP fd45_8 ty4 (by decide)) rfl rfl ?_
       refine ch_s (rd := [33]) rfl rfl (.loadR1 ty4 (enc_cell api_Certificate.enc_len (getI_at he) (o := 10) (c := .bool e.Authority) rfl rfl)) rfl rfl ?_
       refine c0_ rfl rfl r_not rfl rfl ?_
       refine c0_ rfl rfl .nilP rfl rfl ?_
       refine c0_ rfl rfl (.fieldP fd45_8 ty4 (by decide)) rfl rfl ?_
       refine ch_s (rd := [33]) rfl rfl (r_storeR ty4 rfl (enc_cells_le api_Certificate.enc_len (getI_at he) (o := 10) (m := 1) (by decide) rfl) ck4 (cs' := [.bool (!e.Authority)]) (.cons .bool .nil) (enc_splice api_Certificate.enc_len (getI_at he) (o := 10) (x' := (api_Certificate.mk e.Serial e.Issuer e.Subject e.Key e.KeyId e.Hash e.From e.To (!e.Authority) e.Path e.Names e.Seal)) (Nat.le_of_ble_eq_true rfl) rfl rfl)) rfl rfl ?_
       refine c0_ rfl rfl .nilP rfl rfl ?_
       refine c0_ rfl rfl (.fieldP fd45_9 ty3 (by decide)) rfl rfl ?_
       refine ch_s (rd := [33]) rfl rfl (r_storeR ty3 rfl (enc_cells_le api_Certificate.enc_len (setI_at (getI_at he)) (o := 11) (m := 1) (by decide) rfl) ck3 (cs' := [.int .i64 0]) (.cons .int .nil) (enc_splice api_Certificate.enc_len (setI_at (getI_at he)) (o := 11) (x' := (api_Certificate.mk ((api_Certificate.mk e.Serial e.Issuer e.Subject e.Key e.KeyId e.Hash e.From e.To (!e.Authority) e.Path e.Names e.Seal).Serial) ((api_Certificate.mk e.Serial e.Issuer e.Subject e.Key e.KeyId e.Hash e.From e.To (!e.Authority) e.Path e.Names e.Seal).Issuer) ((api_Certificate.mk e.Serial e.Issuer e.Subject e.Key e.KeyId e.Hash e.From e.To (!e.Authority) e.Path e.Names e.Seal).Subject) ((api_Certificate.mk e.Serial e.Issuer e.Subject e.Key e.KeyId e.Hash e.From e.To (!e.Authority) e.Path e.Names e.Seal).Key) ((api_Certificate.mk e.Serial e.Issuer e.Subject e.Key e.KeyId e.Hash e.From e.To (!e.Authority) e.Path e.Names e.Seal).KeyId) ((api_Certificate.mk e.Serial e.Issuer e.Subject e.Key e.KeyId e.Hash e.From e.To (!e.Authority) e.Path e.Names e.Seal).Hash) ((api_Certificate.mk e.Serial e.Issuer e.Subject e.Key e.KeyId e.Hash e.From e.To (!e.Authority) e.Path e.Names e.Seal).From) ((api_Certificate.mk e.Serial e.Issuer e.Subject e.Key e.KeyId e.Hash e.From e.To (!e.Authority) e.Path e.Names e.Seal).To) ((api_Certificate.mk e.Serial e.Issuer e.Subject e.Key e.KeyId e.Hash e.From e.To (!e.Authority) e.Path e.Names e.Seal).Authority) 0 ((api_Certificate.mk e.Serial e.Issuer e.Subject e.Key e.KeyId e.Hash e.From e.To (!e.Authority) e.Path e.Names e.Seal).Names) ((api_Certificate.mk e.Serial e.Issuer e.Subject e.Key e.KeyId e.Hash e.From e.To (!e.Authority) e.Path e.Names e.Seal).Seal))) (Nat.le_of_ble_eq_true rfl) rfl rfl)) rfl rfl ?_
       refine ch_n fun hU305_19 => ?_
       exact .inl ⟨(y_4.2, setI (setI y_2.1 ((y_3.1).toNat) (api_Certificate.mk e.Serial e.Issuer e.Subject e.Key e.KeyId e.Hash e.From e.To (!e.Authority) e.Path e.Names e.Seal)) ((y_3.1).toNat) (api_Certificate.mk ((api_Certificate.mk e.Serial e.Issuer e.Subject e.Key e.KeyId e.Hash e.From e.To (!e.Authority) e.Path e.Names e.Seal).Serial) ((api_Certificate.mk e.Serial e.Issuer e.Subject e.Key e.KeyId e.Hash e.From e.To (!e.Authority) e.Path e.Names e.Seal).Issuer) ((api_Certificate.mk e.Serial e.Issuer e.Subject e.Key e.KeyId e.Hash e.From e.To (!e.Authority) e.Path e.Names e.Seal).Subject) ((api_Certificate.mk e.Serial e.Issuer e.Subject e.Key e.KeyId e.Hash e.From e.To (!e.Authority) e.Path e.Names e.Seal).Key) ((api_Certificate.mk e.Serial e.Issuer e.Subject e.Key e.KeyId e.Hash e.From e.To (!e.Authority) e.Path e.Names e.Seal).KeyId) ((api_Certificate.mk e.Serial e.Issuer e.Subject e.Key e.KeyId e.Hash e.From e.To (!e.Authority) e.Path e.Names e.Seal).Hash) ((api_Certificate.mk e.Serial e.Issuer e.Subject e.Key e.KeyId e.Hash e.From e.To (!e.Authority) e.Path e.Names e.Seal).From) ((api_Certificate.mk e.Serial e.Issuer e.Subject e.Key e.KeyId e.Hash e.From e.To (!e.Authority) e.Path e.Names e.Seal).To) ((api_Certificate.mk e.Serial e.Issuer e.Subject e.Key e.KeyId e.Hash e.From e.To (!e.Authority) e.Path e.Names e.Seal).Authority) 0 ((api_Certificate.mk e.Serial e.Issuer e.Subject e.Key e.KeyId e.Hash e.From e.To (!e.Authority) e.Path e.Names e.Seal).Names) ((api_Certificate.mk e.Serial e.Issuer e.Subject e.Key e.KeyId e.Hash e.From e.To (!e.Authority) e.Path e.Names e.Seal).Seal))), hg, Sub.lists [(0, 0), (1, 33)] rfl rfl ⟨⟨_, rfl, .ptr rfl⟩, ⟨_, rfl, .row rfl⟩, trivial⟩ ⟨.inl ⟨0, _, rfl, rfl, ⟨rfl, .cons (.sl _ _) (.cons (.val _) .nil)⟩⟩, .inl ⟨33, _, rfl, rfl, ⟨rfl, rfl, rfl⟩⟩, trivial⟩⟩
      ·replace hg := cond_f h18 hg
       refine sr_ 201 217 hU201_17 ?_
       refine c0_ rfl rfl r_eql rfl rfl ?_
       refine c0_ rfl rfl .assign rfl rfl ?_
       refine ch_n fun hU217_20 => ?_
       refine awp_cond rfl (fun h21 => ?_) (fun h21 => ?_)
       ·replace hg := cond_t h21 hg
        refine awp_region (sys _ _ [233]) 217 273 hU217_20 rfl rfl ?_
        refine c0_ rfl rfl .move rfl rfl ?_
        refine c0_ rfl rfl .move rfl rfl ?_
        refine ch_z (rd := []) rfl rfl (r_buildFull sl22 z3 (by decide) rfl rfl rfl rfl ck3 (cs := [.int .i64 0, .int .i64 9]) (.cons .int (.cons .int .nil)) rfl (l := ([0, 9] : List Int)) (f := eI) rfl) rfl rfl rfl ?_
        obtain ⟨y_5, hy_5, hg⟩ := bind_some hg
        refine ch_callP (rd := [0]) (ps := [0]) (gs := []) false rfl (w_make_Dice_Of y_4.2 ([0, 9] : List Int) _ hy_5) rfl rfl (.cons (.ptr rfl) (.cons .sl .nil)) ⟨_, _, _, rfl, .head _, ⟨_, rfl, (by repeat' (first | exact AgL.nil | apply AgL.cons | exact Ag.val | exact Ag.sl | exact Ag.nils))⟩, rfl⟩ rfl (by intro h; cases h) rfl rfl rfl rfl ?_
        refine c0_ rfl rfl .nilP rfl rfl ?_
        refine c0_ rfl rfl (.fieldP fd45_9 ty3 (by decide)) rfl rfl ?_
        refine ch_s (rd := [33]) rfl rfl (r_storeR ty3 rfl (enc_cells_le api_Certificate.enc_len (getI_at he) (o := 11) (m := 1) (by decide) rfl) ck3 (cs' := [.int .i64 y_5.1]) (.cons .int .nil) (enc_splice api_Certificate.enc_len (getI_at he) (o := 11) (x' := (api_Certificate.mk e.Serial e.Issuer e.Subject e.Key e.KeyId e.Hash e.From e.To e.Authority y_5.1 e.Names e.Seal)) (Nat.le_of_ble_eq_true rfl) rfl rfl)) rfl rfl ?_
        refine ch_n fun hU273_22 => ?_
        exact .inl ⟨(y_5.2, setI y_2.1 ((y_3.1).toNat) (api_Certificate.mk e.Serial e.Issuer e.Subject e.Key e.KeyId e.Hash e.From e.To e.Authority y_5.1 e.Names e.Seal)), hg, Sub.lists [(0, 0), (1, 33)] rfl rfl ⟨⟨_, rfl, .ptr rfl⟩, ⟨_, rfl, .row rfl⟩, trivial⟩ ⟨.inl ⟨0, _, rfl, rfl, ⟨rfl, .cons (.sl _ _) (.cons (.val _) .nil)⟩⟩, .inl ⟨33, _, rfl, rfl, ⟨rfl, rfl, rfl⟩⟩, trivial⟩⟩
       ·replace hg := cond_f h21 hg
        refine sr_ 217 233 hU217_20 ?_
        refine c0_ rfl rfl r_eql rfl rfl ?_
        refine c0_ rfl rfl .assign rfl rfl ?_
        refine ch_n fun hU233_23 => ?_
        refine awp_cond rfl (fun h24 => ?_) (fun h24 => ?_)
        ·replace hg := cond_t h24 hg
         refine awp_region (sys _ _ []) 233 265 hU233_23 rfl rfl ?_
         refine c0_ rfl rfl .move rfl rfl ?_
         refine c0_ rfl rfl .nilP rfl rfl ?_
         refine c0_ rfl rfl (.fieldP fd45_10 ty41 (by decide)) rfl rfl ?_
         refine ch_s (rd := [33]) rfl rfl (r_storeR ty41 rfl (enc_cells_le api_Certificate.enc_len (getI_at he) (o := 12) (m := 1) (by decide) rfl) ck41 (cs' := [.sl 1 (encL eS [])]) (.cons .nil .nil) (enc_splice api_Certificate.enc_len (getI_at he) (o := 12) (x' := (api_Certificate.mk e.Serial e.Issuer e.Subject e.Key e.KeyId e.Hash e.From e.To e.Authority e.Path ([] : (List ByteArray)) e.Seal)) (Nat.le_of_ble_eq_true rfl) rfl rfl)) rfl rfl ?_
         refine ch_n fun hU265_25 => ?_
         exact .inl ⟨(y_4.2, setI y_2.1 ((y_3.1).toNat) (api_Certificate.mk e.Serial e.Issuer e.Subject e.Key e.KeyId e.Hash e.From e.To e.Authority e.Path ([] : (List ByteArray)) e.Seal)), hg, Sub.lists [(0, 0), (1, 33)] rfl rfl ⟨⟨_, rfl, .ptr rfl⟩, ⟨_, rfl, .row rfl⟩, trivial⟩ ⟨.inl ⟨0, _, rfl, rfl, ⟨rfl, .cons (.sl _ _) (.cons (.val _) .nil)⟩⟩, .inl ⟨33, _, rfl, rfl, ⟨rfl, rfl, rfl⟩⟩, trivial⟩⟩
        ·replace hg := cond_f h24 hg
         refine sr_ 233 249 hU233_23 ?_
         refine c0_ rfl rfl r_eql rfl rfl ?_
         refine c0_ rfl rfl .assign rfl rfl ?_
         refine ch_n fun hU249_26 => ?_
         refine awp_cond rfl (fun h27 => ?_) (fun h27 => ?_)
         ·replace hg := cond_t h27 hg
          refine awp_region (sys _ _ []) 249 305 hU249_26 rfl rfl ?_
          refine c0_ rfl rfl .move rfl rfl ?_
          refine c0_ rfl rfl .move rfl rfl ?_
          obtain ⟨e_2, he_2, hg⟩ := bind_some hg
          refine ch_s (rd := [33]) rfl rfl (r_idxR sl27 api_Certificate.enc_len (getI_ix he_2) (getI_at he_2)) rfl rfl ?_
          refine ch_s (rd := [33]) rfl rfl (r_loadRA ty45 (enc_cells api_Certificate.enc_len (getI_at he_2) (o := 0) (m := 15) (cs := [.int .i64 e_2.Serial, .str e_2.Issuer, .str e_2.Subject, .int .i64 e_2.Key.Alg, .int .i64 e_2.Key.Bits, .int .i64 e_2.KeyId, .int .i64 e_2.Hash.Alg, .int .i64 e_2.Hash.Bits, .int .i64 e_2.From, .int .i64 e_2.To, .bool e_2.Authority, .int .i64 e_2.Path, .sl 1 (encL eS e_2.Names), .int .i64 e_2.Seal.Key, .int .i64 e_2.Seal.Sum]) rfl (by decide) rfl) (enc_cells_le api_Certificate.enc_len (getI_at he_2) (o := 0) (m := 15) (by decide) rfl)) rfl rfl ?_
          refine c0_ rfl rfl (r_buildFull sl27 z45 (by decide) rfl rfl rfl rfl ck45 (cs := [.int .i64 e_2.Serial, .str e_2.Issuer, .str e_2.Subject, .int .i64 e_2.Key.Alg, .int .i64 e_2.Key.Bits, .int .i64 e_2.KeyId, .int .i64 e_2.Hash.Alg, .int .i64 e_2.Hash.Bits, .int .i64 e_2.From, .int .i64 e_2.To, .bool e_2.Authority, .int .i64 e_2.Path, .sl 1 (encL eS e_2.Names), .int .i64 e_2.Seal.Key, .int .i64 e_2.Seal.Sum]) (.cons .int (.cons .str (.cons .str (.cons .int (.cons .int (.cons .int (.cons .int (.cons .int (.cons .int (.cons .int (.cons .bool (.cons .int (.cons .sl (.cons .int (.cons .int .nil))))))))))))))) rfl (l := ([e_2] : List api_Certificate)) (f := api_Certificate.enc) rfl) rfl rfl ?_
          obtain ⟨l, hl, hg⟩ := bind_some hg
          refine ch_s (rd := [33, 281]) rfl rfl (r_append sl27 api_Certificate.enc_len .row rfl .row rfl hl rfl) rfl rfl ?_
          refine c0_ rfl rfl .assign rfl rfl ?_
          refine ch_n fun hU305_28 => ?_
          exact .inl ⟨(y_4.2, l), hg, Sub.lists [(0, 0), (1, 289)] rfl rfl ⟨⟨_, rfl, .ptr rfl⟩, ⟨_, rfl, .row rfl⟩, trivial⟩ ⟨.inl ⟨0, _, rfl, rfl, ⟨rfl, .cons (.sl _ _) (.cons (.val _) .nil)⟩⟩, .inl ⟨289, _, rfl, rfl, ⟨rfl, rfl, rfl⟩⟩, trivial⟩⟩
         ·replace hg := cond_f h27 hg
          refine sr_ 249 265 hU249_26 ?_
          refine c0_ rfl rfl r_eql rfl rfl ?_
          refine c0_ rfl rfl .assign rfl rfl ?_
          refine ch_n fun hU265_29 => ?_
          refine awp_cond rfl (fun h30 => ?_) (fun h30 => ?_)
          ·replace hg := cond_t h30 hg
           refine awp_region (sys _ _ []) 265 289 hU265_29 rfl rfl ?_
           refine c0_ rfl rfl .move rfl rfl ?_
           obtain ⟨l_2, hl_2, hg⟩ := bind_some hg
           refine ch_s (rd := [33]) rfl rfl (r_sliR_lo sl27 api_Certificate.enc_len hl_2) rfl rfl ?_
           refine c0_ rfl rfl .assign rfl rfl ?_
           refine ch_n fun hU289_31 => ?_
           refine .inr ?_
           refine awp_seq ?_
           refine awp_cut (ι := Bool × cipherplanmake_Dice) (fun ((x123_2, d_2) : Bool × cipherplanmake_Dice) => mk [(0, .ptr 0 0), (3, .part 1 (((1 : Int).toNat) * 15) (((y_2.1.length : Int) : Int).toNat - (1 : Int).toNat)), (123, .val (.bool x123_2))] [(0, .box [.sl 1 (encL eI d_2.L), .val (.int .i64 d_2.At)] 58), (1, .row 45 15 (encL api_Certificate.enc y_2.1))] 2) (fun ((x123_2, d_2) : Bool × cipherplanmake_Dice) => g_law04_made.j2 y_2 x123_2 d_2 = some r) ?_ ?_
           ·refine awp_region (sys _ _ []) 289 345 hU289_31 rfl rfl ?_
            refine c0_ rfl rfl .move rfl rfl ?_
            obtain ⟨y_7, hy_7, hg⟩ := bind_some hg
            refine ch_callP (rd := [0]) (ps := [0]) (gs := []) false rfl (w_make_Dice_One y_4.2 3 _ hy_7) rfl rfl (.cons (.ptr rfl) (.cons .val .nil)) ⟨_, _, _, rfl, .head _, ⟨_, rfl, (by repeat' (first | exact AgL.nil | apply AgL.cons | exact Ag.val | exact Ag.sl | exact Ag.nils))⟩, rfl⟩ rfl (by intro h; cases h) rfl rfl rfl rfl ?_
            refine c0_ rfl rfl .move rfl rfl ?_
            rcases Bool.eq_false_or_eq_true (y_7.1) with h41 | h41
            ·replace hg := cond_t h41 hg
             refine c0_ (gdv_t rfl rfl h41) rfl .move rfl rfl ?_
             refine c0_ (gdv_t rfl rfl h41) rfl (.len sl27.elem .part) rfl rfl ?_
             refine c0_ (gdv_t rfl rfl h41) rfl r_gtr rfl rfl ?_
             refine c0_ rfl rfl (r_pickT h41) rfl rfl ?_
             refine ch_n fun hU345_42 => ?_
             exact ⟨(decide (0 < (((((y_2.1.length : Int) : Int).toNat - (1 : Int).toNat) : Nat) : Int)), y_7.2), hg, Sub.lists [(0, 0), (1, 33)] rfl rfl ⟨⟨_, rfl, .ptr rfl⟩, ⟨_, rfl, .part rfl⟩, ⟨_, rfl, .val _⟩, trivial⟩ ⟨.inl ⟨0, _, rfl, rfl, ⟨rfl, .cons (.sl _ _) (.cons (.val _) .nil)⟩⟩, .inl ⟨33, _, rfl, rfl, ⟨rfl, rfl, rfl⟩⟩, trivial⟩⟩
            ·replace hg := cond_f h41 hg
             iterate 3 refine ch_skip (gdv_f rfl rfl h41) rfl ?_
             refine c0_ rfl rfl (r_pickF h41) rfl rfl ?_
             refine ch_n fun hU345_43 => ?_
             exact ⟨(false, y_7.2), hg, Sub.lists [(0, 0), (1, 33)] rfl rfl ⟨⟨_, rfl, .ptr rfl⟩, ⟨_, rfl, .part rfl⟩, ⟨_, rfl, .val _⟩, trivial⟩ ⟨.inl ⟨0, _, rfl, rfl, ⟨rfl, .cons (.sl _ _) (.cons (.val _) .nil)⟩⟩, .inl ⟨33, _, rfl, rfl, ⟨rfl, rfl, rfl⟩⟩, trivial⟩⟩
           ·rintro ⟨x123_2, d_2⟩ hg
            replace hg : g_law04_made.j2 y_2 x123_2 d_2 = some r := hg
            show awp _ _ _ _ (mk _ _ _)
            unfold g_law04_made.j2 at hg
            refine awp_cond rfl (fun h44 => ?_) (fun h44 => ?_)
            ·replace hg := cond_t h44 hg
             refine sr_ 2 42 mk_U ?_
             refine c0_ rfl rfl .move rfl rfl ?_
             refine c0_ rfl rfl .move rfl rfl ?_
             refine c0_ rfl rfl (.len sl27.elem .part) rfl rfl ?_
             obtain ⟨y_8, hy_8, hg⟩ := bind_some hg
             refine ch_callP (rd := [0]) (ps := [0]) (gs := []) false rfl (w_make_Dice_Next d_2 (((((y_2.1.length : Int) : Int).toNat - (1 : Int).toNat) : Nat) : Int) _ hy_8) rfl rfl (.cons (.ptr rfl) (.cons .val .nil)) ⟨_, _, _, rfl, .head _, ⟨_, rfl, (by repeat' (first | exact AgL.nil | apply AgL.cons | exact Ag.val | exact Ag.sl | exact Ag.nils))⟩, rfl⟩ rfl (by intro h; cases h) rfl rfl rfl rfl ?_
             refine c0_ rfl rfl .assign rfl rfl ?_
             refine ch_n fun hU42_45 => ?_
             refine awp_draw (sys _ _ []) (by kernel_rfl) [0, 0, 0, 0, 12, 28, 0, 0, 192, 448, 960, 1984, 4092, 8188, 16380, 16380, 32767, 98303] 42 186 hU42_45 rfl rfl (by kernel_rfl) ?_
             iterate 4 refine c0_ rfl rfl .move rfl rfl ?_
             obtain ⟨e_6, he_6, hg⟩ := bind_some hg
             refine ch_s (rd := [1]) rfl rfl (r_idxP sl27 (getI_ix he_6) (getI_at he_6)) rfl rfl ?_
             refine ch_s (rd := [1]) rfl rfl (r_loadRA ty45 (enc_cells api_Certificate.enc_len (part_at (a := (1 : Int).toNat) (getI_at he_6)) (o := 0) (m := 15) (cs := [.int .i64 e_6.Serial, .str e_6.Issuer, .str e_6.Subject, .int .i64 e_6.Key.Alg, .int .i64 e_6.Key.Bits, .int .i64 e_6.KeyId, .int .i64 e_6.Hash.Alg, .int .i64 e_6.Hash.Bits, .int .i64 e_6.From, .int .i64 e_6.To, .bool e_6.Authority, .int .i64 e_6.Path, .sl 1 (encL eS e_6.Names), .int .i64 e_6.Seal.Key, .int .i64 e_6.Seal.Sum]) rfl (by decide) rfl) (enc_cells_le api_Certificate.enc_len (part_at (a := (1 : Int).toNat) (getI_at he_6)) (o := 0) (m := 15) (by decide) rfl)) rfl rfl ?_
             refine c0_ rfl rfl .move rfl rfl ?_
             refine c0_ rfl rfl .move rfl rfl ?_
             refine ch_s (rd := [1]) rfl rfl (r_idxP sl27 (getI_ix he_6) (getI_at he_6)) rfl rfl ?_
             refine c0_ rfl rfl (.fieldP fd45_11 ty43 (by decide)) rfl rfl ?_
             refine c0_ rfl rfl (.fieldP fd43_0 ty3 (by decide)) rfl rfl ?_
             refine ch_s (rd := [1]) rfl rfl (.loadR1 ty3 (enc_cell api_Certificate.enc_len (part_at (a := (1 : Int).toNat) (getI_at he_6)) (o := 13) (c := .int .i64 e_6.Seal.Key) rfl rfl)) rfl rfl ?_
             obtain ⟨y_9, hy_9, hg⟩ := bind_some hg
             refine ch_callP (rd := []) (ps := []) (gs := []) false rfl (w_ref03_Sign e_6 e_6.Seal.Key _ hy_9) rfl rfl (.cons (.agg (.cons .val (.cons .val (.cons .val (.cons .val (.cons .val (.cons .val (.cons .val (.cons .val (.cons .val (.cons .val (.cons .val (.cons .val (.cons .sl (.cons .val (.cons .val .nil)))))))))))))))) (.cons .val .nil)) rfl rfl (by intro h; cases h) rfl rfl rfl rfl ?_
             refine c0_ rfl rfl .move rfl rfl ?_
             refine c0_ rfl rfl (.extract rfl) rfl rfl ?_
             refine c0_ rfl rfl (.extract rfl) rfl rfl ?_
             refine ch_s (rd := [1]) rfl rfl (r_idxP sl27 (getI_ix he_6) (getI_at he_6)) rfl rfl ?_
             refine ch_s (rd := [1]) rfl rfl (r_storeR ty45 rfl (enc_cells_le api_Certificate.enc_len (part_at (a := (1 : Int).toNat) (getI_at he_6)) (o := 0) (m := 15) (by decide) rfl) ck45 (cs' := [.int .i64 y_9.1.Serial, .str y_9.1.Issuer, .str y_9.1.Subject, .int .i64 y_9.1.Key.Alg, .int .i64 y_9.1.Key.Bits, .int .i64 y_9.1.KeyId, .int .i64 y_9.1.Hash.Alg, .int .i64 y_9.1.Hash.Bits, .int .i64 y_9.1.From, .int .i64 y_9.1.To, .bool y_9.1.Authority, .int .i64 y_9.1.Path, .sl 1 (encL eS y_9.1.Names), .int .i64 y_9.1.Seal.Key, .int .i64 y_9.1.Seal.Sum]) (.cons .int (.cons .str (.cons .str (.cons .int (.cons .int (.cons .int (.cons .int (.cons .int (.cons .int (.cons .int (.cons .bool (.cons .int (.cons .sl (.cons .int (.cons .int .nil))))))))))))))) (enc_splice api_Certificate.enc_len (part_at (a := (1 : Int).toNat) (getI_at he_6)) (o := 0) (x' := y_9.1) (Nat.le_of_ble_eq_true rfl) rfl rfl)) rfl rfl ?_
             refine ch_n fun hU186_46 => ?_
             refine sr_ 186 202 hU186_46 ?_
             refine c0_ rfl rfl .move rfl rfl ?_
             refine c0_ rfl rfl .assign rfl rfl ?_
             refine ch_n fun hU202_47 => ?_
             refine aw_r ?_
             obtain rfl := Option.some.inj hg
             exact ⟨[_], _, [_], [(0, 0)], .cons (.tmp rfl) .nil, ⟨rfl, rfl⟩, .frzP rfl (look_ne rfl) (part_le api_Certificate.enc_len (setI_le (slI_le hl_2))) (enc_part api_Certificate.enc_len _ _ _ (setI_le (slI_le hl_2))), ⟨.inl ⟨0, _, rfl, rfl, ⟨rfl, .cons (.sl _ _) (.cons (.val _) .nil)⟩⟩, trivial⟩, rfl, rfl, rfl, rfl⟩
            ·replace hg := cond_f h44 hg
             refine aw_s ?_
             refine sr_ 2 18 mk_U ?_
             refine c0_ rfl rfl .move rfl rfl ?_
             refine c0_ rfl rfl .assign rfl rfl ?_
             refine ch_n fun hU18_48 => ?_
             refine aw_r ?_
             obtain rfl := Option.some.inj hg
             exact ⟨[_], _, [_], [(0, 0)], .cons (.tmp rfl) .nil, ⟨rfl, rfl⟩, .frzP rfl (look_ne rfl) (part_le api_Certificate.enc_len (slI_le hl_2)) (enc_part api_Certificate.enc_len _ _ _ (slI_le hl_2)), ⟨.inl ⟨0, _, rfl, rfl, ⟨rfl, .cons (.sl _ _) (.cons (.val _) .nil)⟩⟩, trivial⟩, rfl, rfl, rfl, rfl⟩
          ·replace hg := cond_f h30 hg
           refine sr_ 265 281 hU265_29 ?_
           refine c0_ rfl rfl r_eql rfl rfl ?_
           refine c0_ rfl rfl .assign rfl rfl ?_
           refine ch_n fun hU281_32 => ?_
           refine awp_cond rfl (fun h33 => ?_) (fun h33 => ?_)
           ·replace hg := cond_t h33 hg
            refine awp_sub (σ' := mk [(0, .ptr 0 0), (3, .part 1 (0 * 15) y_2.1.length)] [(0, .box [.sl 1 (encL eI y_4.2.L), .val (.int .i64 y_4.2.At)] 58), (1, .row 45 15 (encL api_Certificate.enc y_2.1))] 2) (Sub.lists [(0, 0), (1, 33)] rfl rfl ⟨⟨_, rfl, .ptr rfl⟩, ⟨_, rfl, .rowP rfl rfl (by decide) (encL_len api_Certificate.enc_len _)⟩, trivial⟩ ⟨.inl ⟨0, _, rfl, rfl, ⟨rfl, .cons (.sl _ _) (.cons (.val _) .nil)⟩⟩, .inl ⟨33, _, rfl, rfl, ⟨rfl, rfl, rfl⟩⟩, trivial⟩) ?_
            refine awp_draw (sys _ _ []) (by kernel_rfl) [0, 0, 0, 4, 12, 0, 0, 64, 192, 480, 992, 0, 2048, 6144, 16353, 32737, 65535, 131071] 2 146 mk_U rfl rfl (by kernel_rfl) ?_
            iterate 3 refine c0_ rfl rfl .move rfl rfl ?_
            refine c0_ rfl rfl (.len sl27.elem .part) rfl rfl ?_
            refine c0_ rfl rfl r_sub rfl rfl ?_
            refine c0_ rfl rfl .move rfl rfl ?_
            refine c0_ rfl rfl .move rfl rfl ?_
            refine c0_ rfl rfl (.len sl27.elem .part) rfl rfl ?_
            refine c0_ rfl rfl r_sub rfl rfl ?_
            obtain ⟨e_3, he_3, hg⟩ := bind_some hg
            refine ch_s (rd := [1]) rfl rfl (r_idxP sl27 (getI_ix he_3) (getI_at he_3)) rfl rfl ?_
            refine ch_s (rd := [1]) rfl rfl (r_loadRA ty45 (enc_cells api_Certificate.enc_len (part_at (a := 0) (getI_at he_3)) (o := 0) (m := 15) (cs := [.int .i64 e_3.Serial, .str e_3.Issuer, .str e_3.Subject, .int .i64 e_3.Key.Alg, .int .i64 e_3.Key.Bits, .int .i64 e_3.KeyId, .int .i64 e_3.Hash.Alg, .int .i64 e_3.Hash.Bits, .int .i64 e_3.From, .int .i64 e_3.To, .bool e_3.Authority, .int .i64 e_3.Path, .sl 1 (encL eS e_3.Names), .int .i64 e_3.Seal.Key, .int .i64 e_3.Seal.Sum]) rfl (by decide) rfl) (enc_cells_le api_Certificate.enc_len (part_at (a := 0) (getI_at he_3)) (o := 0) (m := 15) (by decide) rfl)) rfl rfl ?_
            refine c0_ rfl rfl .move rfl rfl ?_
            obtain ⟨e_4, he_4, hg⟩ := bind_some hg
            refine ch_s (rd := [1]) rfl rfl (r_idxP sl27 (getI_ix he_4) (getI_at he_4)) rfl rfl ?_
            refine ch_s (rd := [1]) rfl rfl (r_loadRA ty45 (enc_cells api_Certificate.enc_len (part_at (a := 0) (getI_at he_4)) (o := 0) (m := 15) (cs := [.int .i64 e_4.Serial, .str e_4.Issuer, .str e_4.Subject, .int .i64 e_4.Key.Alg, .int .i64 e_4.Key.Bits, .int .i64 e_4.KeyId, .int .i64 e_4.Hash.Alg, .int .i64 e_4.Hash.Bits, .int .i64 e_4.From, .int .i64 e_4.To, .bool e_4.Authority, .int .i64 e_4.Path, .sl 1 (encL eS e_4.Names), .int .i64 e_4.Seal.Key, .int .i64 e_4.Seal.Sum]) rfl (by decide) rfl) (enc_cells_le api_Certificate.enc_len (part_at (a := 0) (getI_at he_4)) (o := 0) (m := 15) (by decide) rfl)) rfl rfl ?_
            refine ch_s (rd := [1]) rfl rfl (r_idxP sl27 (getI_ix he_4) (getI_at he_4)) rfl rfl ?_
            refine ch_s (rd := [1]) rfl rfl (r_storeR ty45 rfl (enc_cells_le api_Certificate.enc_len (part_at (a := 0) (getI_at he_4)) (o := 0) (m := 15) (by decide) rfl) ck45 (cs' := [.int .i64 e_3.Serial, .str e_3.Issuer, .str e_3.Subject, .int .i64 e_3.Key.Alg, .int .i64 e_3.Key.Bits, .int .i64 e_3.KeyId, .int .i64 e_3.Hash.Alg, .int .i64 e_3.Hash.Bits, .int .i64 e_3.From, .int .i64 e_3.To, .bool e_3.Authority, .int .i64 e_3.Path, .sl 1 (encL eS e_3.Names), .int .i64 e_3.Seal.Key, .int .i64 e_3.Seal.Sum]) (.cons .int (.cons .str (.cons .str (.cons .int (.cons .int (.cons .int (.cons .int (.cons .int (.cons .int (.cons .int (.cons .bool (.cons .int (.cons .sl (.cons .int (.cons .int .nil))))))))))))))) (enc_splice api_Certificate.enc_len (part_at (a := 0) (getI_at he_4)) (o := 0) (x' := e_3) (Nat.le_of_ble_eq_true rfl) rfl rfl)) rfl rfl ?_
            obtain ⟨e_5, he_5, hg⟩ := bind_some hg
            refine ch_s (rd := [1]) rfl rfl (r_idxP sl27 (getI_ix he_5) (getI_at he_5)) rfl rfl ?_
            refine ch_s (rd := [1]) rfl rfl (r_storeR ty45 rfl (enc_cells_le api_Certificate.enc_len (part_at (a := 0) (getI_at he_5)) (o := 0) (m := 15) (by decide) rfl) ck45 (cs' := [.int .i64 e_4.Serial, .str e_4.Issuer, .str e_4.Subject, .int .i64 e_4.Key.Alg, .int .i64 e_4.Key.Bits, .int .i64 e_4.KeyId, .int .i64 e_4.Hash.Alg, .int .i64 e_4.Hash.Bits, .int .i64 e_4.From, .int .i64 e_4.To, .bool e_4.Authority, .int .i64 e_4.Path, .sl 1 (encL eS e_4.Names), .int .i64 e_4.Seal.Key, .int .i64 e_4.Seal.Sum]) (.cons .int (.cons .str (.cons .str (.cons .int (.cons .int (.cons .int (.cons .int (.cons .int (.cons .int (.cons .int (.cons .bool (.cons .int (.cons .sl (.cons .int (.cons .int .nil))))))))))))))) (enc_splice api_Certificate.enc_len (part_at (a := 0) (getI_at he_5)) (o := 0) (x' := e_4) (Nat.le_of_ble_eq_true rfl) rfl rfl)) rfl rfl ?_
            refine ch_n fun hU146_34 => ?_
            exact .inl ⟨(y_4.2, setI (setI y_2.1 (0 + ((0 : Int).toNat)) e_3) (0 + ((W (((y_2.1.length : Nat) : Int) - 1)).toNat)) e_4), hg, Sub.lists [(0, 0), (1, 1)] rfl rfl ⟨⟨_, rfl, .ptr rfl⟩, ⟨_, rfl, .partR rfl rfl (by decide) ((encL_len api_Certificate.enc_len _).trans (congrArg (· * 15) (by simp only [setI, List.length_set])))⟩, trivial⟩ ⟨.inl ⟨0, _, rfl, rfl, ⟨rfl, .cons (.sl _ _) (.cons (.val _) .nil)⟩⟩, .inl ⟨1, _, rfl, rfl, ⟨rfl, rfl, rfl⟩⟩, trivial⟩⟩
           ·replace hg := cond_f h33 hg
            refine sr_ 281 297 hU281_32 ?_
            refine c0_ rfl rfl r_eql rfl rfl ?_
            refine c0_ rfl rfl .assign rfl rfl ?_
            refine ch_n fun hU297_35 => ?_
            refine awp_cond rfl (fun h36 => ?_) (fun h36 => ?_)
            ·replace hg := cond_t h36 hg
             refine awp_region (sys _ _ [313]) 297 361 hU297_35 rfl rfl ?_
             refine c0_ rfl rfl .move rfl rfl ?_
             refine c0_ rfl rfl .move rfl rfl ?_
             refine ch_z (rd := []) rfl rfl (r_buildFull sl22 z3 (by decide) rfl rfl rfl rfl ck3 (cs := [.int .i64 1, .int .i64 2, .int .i64 11]) (.cons .int (.cons .int (.cons .int .nil))) rfl (l := ([1, 2, 11] : List Int)) (f := eI) rfl) rfl rfl rfl ?_
             obtain ⟨y_6, hy_6, hg⟩ := bind_some hg
             refine ch_callP (rd := [0]) (ps := [0]) (gs := []) false rfl (w_make_Dice_Of y_4.2 ([1, 2, 11] : List Int) _ hy_6) rfl rfl (.cons (.ptr rfl) (.cons .sl .nil)) ⟨_, _, _, rfl, .head _, ⟨_, rfl, (by repeat' (first | exact AgL.nil | apply AgL.cons | exact Ag.val | exact Ag.sl | exact Ag.nils))⟩, rfl⟩ rfl (by intro h; cases h) rfl rfl rfl rfl ?_
             refine c0_ rfl rfl .nilP rfl rfl ?_
             refine c0_ rfl rfl (.fieldP fd45_11 ty43 (by decide)) rfl rfl ?_
             refine c0_ rfl rfl (.fieldP fd43_0 ty3 (by decide)) rfl rfl ?_
             refine ch_s (rd := [33]) rfl rfl (r_storeR ty3 rfl (enc_cells_le api_Certificate.enc_len (getI_at he) (o := 13) (m := 1) (by decide) rfl) ck3 (cs' := [.int .i64 y_6.1]) (.cons .int .nil) (enc_splice api_Certificate.enc_len (getI_at he) (o := 13) (x' := (api_Certificate.mk e.Serial e.Issuer e.Subject e.Key e.KeyId e.Hash e.From e.To e.Authority e.Path e.Names (api_Seal.mk y_6.1 e.Seal.Sum))) (Nat.le_of_ble_eq_true rfl) rfl rfl)) rfl rfl ?_
             refine ch_n fun hU361_37 => ?_
             exact .inl ⟨(y_6.2, setI y_2.1 ((y_3.1).toNat) (api_Certificate.mk e.Serial e.Issuer e.Subject e.Key e.KeyId e.Hash e.From e.To e.Authority e.Path e.Names (api_Seal.mk y_6.1 e.Seal.Sum))), hg, Sub.lists [(0, 0), (1, 33)] rfl rfl ⟨⟨_, rfl, .ptr rfl⟩, ⟨_, rfl, .row rfl⟩, trivial⟩ ⟨.inl ⟨0, _, rfl, rfl, ⟨rfl, .cons (.sl _ _) (.cons (.val _) .nil)⟩⟩, .inl ⟨33, _, rfl, rfl, ⟨rfl, rfl, rfl⟩⟩, trivial⟩⟩
            ·replace hg := cond_f h36 hg
             refine sr_ 297 313 hU297_35 ?_
             refine c0_ rfl rfl r_eql rfl rfl ?_
             refine c0_ rfl rfl .assign rfl rfl ?_
             refine ch_n fun hU313_38 => ?_
             refine awp_cond rfl (fun h39 => ?_) (fun h39 => ?_)
             ·replace hg := cond_t h39 hg
              refine awp_region (sys _ _ []) 313 385 hU313_38 rfl rfl ?_
              refine c0_ rfl rfl .move rfl rfl ?_
              refine c0_ rfl rfl .move rfl rfl ?_
              refine c0_ rfl rfl .nilP rfl rfl ?_
              refine c0_ rfl rfl (.fieldP fd45_7 ty3 (by decide)) rfl rfl ?_
              refine ch_s (rd := [33]) rfl rfl (.loadR1 ty3 (enc_cell api_Certificate.enc_len (getI_at he) (o := 9) (c := .int .i64 e.To) rfl rfl)) rfl rfl ?_
              refine c0_ rfl rfl r_add rfl rfl ?_
              refine c0_ rfl rfl .nilP rfl rfl ?_
              refine c0_ rfl rfl (.fieldP fd45_6 ty3 (by decide)) rfl rfl ?_
              refine ch_s (rd := [33]) rfl rfl (r_storeR ty3 rfl (enc_cells_le api_Certificate.enc_len (getI_at he) (o := 8) (m := 1) (by decide) rfl) ck3 (cs' := [.int .i64 (W (e.To + 1))]) (.cons .int .nil) (enc_splice api_Certificate.enc_len (getI_at he) (o := 8) (x' := (api_Certificate.mk e.Serial e.Issuer e.Subject e.Key e.KeyId e.Hash (W (e.To + 1)) e.To e.Authority e.Path e.Names e.Seal)) (Nat.le_of_ble_eq_true rfl) rfl rfl)) rfl rfl ?_
              refine ch_n fun hU385_40 => ?_
              exact .inl ⟨(y_4.2, setI y_2.1 ((y_3.1).toNat) (api_Certificate.mk e.Serial e.Issuer e.Subject e.Key e.KeyId e.Hash (W (e.To + 1)) e.To e.Authority e.Path e.Names e.Seal)), hg, Sub.lists [(0, 0), (1, 33)] rfl rfl ⟨⟨_, rfl, .ptr rfl⟩, ⟨_, rfl, .row rfl⟩, trivial⟩ ⟨.inl ⟨0, _, rfl, rfl, ⟨rfl, .cons (.sl _ _) (.cons (.val _) .nil)⟩⟩, .inl ⟨33, _, rfl, rfl, ⟨rfl, rfl, rfl⟩⟩, trivial⟩⟩
             ·replace hg := cond_f h39 hg
              refine aw_s ?_
              exact .inl ⟨(y_4.2, y_2.1), hg, Sub.lists [(0, 0), (1, 33)] rfl rfl ⟨⟨_, rfl, .ptr rfl⟩, ⟨_, rfl, .row rfl⟩, trivial⟩ ⟨.inl ⟨0, _, rfl, rfl, ⟨rfl, .cons (.sl _ _) (.cons (.val _) .nil)⟩⟩, .inl ⟨33, _, rfl, rfl, ⟨rfl, rfl, rfl⟩⟩, trivial⟩⟩
 ·rintro ⟨d_3, l_3⟩ hg
  replace hg : g_law04_made.j3 d_3 l_3 = some r := hg
  show awp _ _ _ _ (mk _ _ _)
  unfold g_law04_made.j3 at hg
  refine awp_seq ?_
  refine awp_cut (ι := Bool × cipherplanmake_Dice) (fun ((x123_4, d_4) : Bool × cipherplanmake_Dice) => mk [(0, .ptr 0 0), (3, .row 1), (123, .val (.bool x123_4))] [(0, .box [.sl 1 (encL eI d_4.L), .val (.int .i64 d_4.At)] 58), (1, .row 45 15 (encL api_Certificate.enc l_3))] 2) (fun ((x123_4, d_4) : Bool × cipherplanmake_Dice) => g_law04_made.j4 l_3 x123_4 d_4 = some r) ?_ ?_
  ·refine awp_region (sys _ _ []) 2 58 mk_U rfl rfl ?_
   refine c0_ rfl rfl .move rfl rfl ?_
   obtain ⟨y_10, hy_10, hg⟩ := bind_some hg
   refine ch_callP (rd := [0]) (ps := [0]) (gs := []) false rfl (w_make_Dice_One d_3 3 _ hy_10) rfl rfl (.cons (.ptr rfl) (.cons .val .nil)) ⟨_, _, _, rfl, .head _, ⟨_, rfl, (by repeat' (first | exact AgL.nil | apply AgL.cons | exact Ag.val | exact Ag.sl | exact Ag.nils))⟩, rfl⟩ rfl (by intro h; cases h) rfl rfl rfl rfl ?_
   refine c0_ rfl rfl .move rfl rfl ?_
   rcases Bool.eq_false_or_eq_true (y_10.1) with h49 | h49
   ·replace hg := cond_t h49 hg
    refine c0_ (gdv_t rfl rfl h49) rfl .move rfl rfl ?_
    refine ch_s (rd := [1]) (gdv_t rfl rfl h49) rfl (r_lenR sl27 api_Certificate.enc_len) rfl rfl ?_
    refine c0_ (gdv_t rfl rfl h49) rfl r_gtr rfl rfl ?_
    refine c0_ rfl rfl (r_pickT h49) rfl rfl ?_
    refine ch_n fun hU58_50 => ?_
    exact ⟨(decide (0 < (l_3.length : Int)), y_10.2), hg, Sub.lists [(0, 0), (1, 1)] rfl rfl ⟨⟨_, rfl, .ptr rfl⟩, ⟨_, rfl, .row rfl⟩, ⟨_, rfl, .val _⟩, trivial⟩ ⟨.inl ⟨0, _, rfl, rfl, ⟨rfl, .cons (.sl _ _) (.cons (.val _) .nil)⟩⟩, .inl ⟨1, _, rfl, rfl, ⟨rfl, rfl, rfl⟩⟩, trivial⟩⟩
   ·replace hg := cond_f h49 hg
    iterate 3 refine ch_skip (gdv_f rfl rfl h49) rfl ?_
    refine c0_ rfl rfl (r_pickF h49) rfl rfl ?_
    refine ch_n fun hU58_51 => ?_
    exact ⟨(false, y_10.2), hg, Sub.lists [(0, 0), (1, 1)] rfl rfl ⟨⟨_, rfl, .ptr rfl⟩, ⟨_, rfl, .row rfl⟩, ⟨_, rfl, .val _⟩, trivial⟩ ⟨.inl ⟨0, _, rfl, rfl, ⟨rfl, .cons (.sl _ _) (.cons (.val _) .nil)⟩⟩, .inl ⟨1, _, rfl, rfl, ⟨rfl, rfl, rfl⟩⟩, trivial⟩⟩
  ·rintro ⟨x123_4, d_4⟩ hg
   replace hg : g_law04_made.j4 l_3 x123_4 d_4 = some r := hg
   show awp _ _ _ _ (mk _ _ _)
   unfold g_law04_made.j4 at hg
   refine awp_cond rfl (fun h52 => ?_) (fun h52 => ?_)
   ·replace hg := cond_t h52 hg
    refine sr_ 2 42 mk_U ?_
    refine c0_ rfl rfl .move rfl rfl ?_
    refine c0_ rfl rfl .move rfl rfl ?_
    refine ch_s (rd := [1]) rfl rfl (r_lenR sl27 api_Certificate.enc_len) rfl rfl ?_
    obtain ⟨y_11, hy_11, hg⟩ := bind_some hg
    refine ch_callP (rd := [0]) (ps := [0]) (gs := []) false rfl (w_make_Dice_Next d_4 (l_3.length : Int) _ hy_11) rfl rfl (.cons (.ptr rfl) (.cons .val .nil)) ⟨_, _, _, rfl, .head _, ⟨_, rfl, (by repeat' (first | exact AgL.nil | apply AgL.cons | exact Ag.val | exact Ag.sl | exact Ag.nils))⟩, rfl⟩ rfl (by intro h; cases h) rfl rfl rfl rfl ?_
    refine c0_ rfl rfl .assign rfl rfl ?_
    refine ch_n fun hU42_53 => ?_
    refine awp_draw (sys _ _ []) (by kernel_rfl) [0, 0, 0, 0, 12, 28, 0, 0, 192, 448, 960, 1984, 4092, 8188, 16380, 16380, 32767, 98303] 42 186 hU42_53 rfl rfl (by kernel_rfl) ?_
    iterate 4 refine c0_ rfl rfl .move rfl rfl ?_
    obtain ⟨e_7, he_7, hg⟩ := bind_some hg
    refine ch_s (rd := [1]) rfl rfl (r_idxR sl27 api_Certificate.enc_len (getI_ix he_7) (getI_at he_7)) rfl rfl ?_
    refine ch_s (rd := [1]) rfl rfl (r_loadRA ty45 (enc_cells api_Certificate.enc_len (getI_at he_7) (o := 0) (m := 15) (cs := [.int .i64 e_7.Serial, .str e_7.Issuer, .str e_7.Subject, .int .i64 e_7.Key.Alg, .int .i64 e_7.Key.Bits, .int .i64 e_7.KeyId, .int .i64 e_7.Hash.Alg, .int .i64 e_7.Hash.Bits, .int .i64 e_7.From, .int .i64 e_7.To, .bool e_7.Authority, .int .i64 e_7.Path, .sl 1 (encL eS e_7.Names), .int .i64 e_7.Seal.Key, .int .i64 e_7.Seal.Sum]) rfl (by decide) rfl) (enc_cells_le api_Certificate.enc_len (getI_at he_7) (o := 0) (m := 15) (by decide) rfl)) rfl rfl ?_
    refine c0_ rfl rfl .move rfl rfl ?_
    refine c0_ rfl rfl .move rfl rfl ?_
    refine ch_s (rd := [1]) rfl rfl (r_idxR sl27 api_Certificate.enc_len (getI_ix he_7) (getI_at he_7)) rfl rfl ?_
    refine c0_ rfl rfl (.fieldP fd45_11 ty43 (by decide)) rfl rfl ?_
    refine c0_ rfl rfl (.fieldP fd43_0 ty3 (by decide)) rfl rfl ?_
    refine ch_s (rd := [1]) rfl rfl (.loadR1 ty3 (enc_cell api_Certificate.enc_len (getI_at he_7) (o := 13) (c := .int .i64 e_7.Seal.Key) rfl rfl)) rfl rfl ?_
    obtain ⟨y_12, hy_12, hg⟩ := bind_some hg
    refine ch_callP (rd := []) (ps := []) (gs := []) false rfl (w_ref03_Sign e_7 e_7.Seal.Key _ hy_12) rfl rfl (.cons (.agg (.cons .val (.cons .val (.cons .val (.cons .val (.cons .val (.cons .val (.cons .val (.cons .val (.cons .val (.cons .val (.cons .val (.cons .val (.cons .sl (.cons .val (.cons .val .nil)))))))))))))))) (.cons .val .nil)) rfl rfl (by intro h; cases h) rfl rfl rfl rfl ?_
    refine c0_ rfl rfl .move rfl rfl ?_
    refine c0_ rfl rfl (.extract rfl) rfl rfl ?_
    refine c0_ rfl rfl (.extract rfl) rfl rfl ?_
    refine ch_s (rd := [1]) rfl rfl (r_idxR sl27 api_Certificate.enc_len (getI_ix he_7) (getI_at he_7)) rfl rfl ?_
    refine ch_s (rd := [1]) rfl rfl (r_storeR ty45 rfl (enc_cells_le api_Certificate.enc_len (getI_at he_7) (o := 0) (m := 15) (by decide) rfl) ck45 (cs' := [.int .i64 y_12.1.Serial, .str y_12.1.Issuer, .str y_12.1.Subject, .int .i64 y_12.1.Key.Alg, .int .i64 y_12.1.Key.Bits, .int .i64 y_12.1.KeyId, .int .i64 y_12.1.Hash.Alg, .int .i64 y_12.1.Hash.Bits, .int .i64 y_12.1.From, .int .i64 y_12.1.To, .bool y_12.1.Authority, .int .i64 y_12.1.Path, .sl 1 (encL eS y_12.1.Names), .int .i64 y_12.1.Seal.Key, .int .i64 y_12.1.Seal.Sum]) (.cons .int (.cons .str (.cons .str (.cons .int (.cons .int (.cons .int (.cons .int (.cons .int (.cons .int (.cons .int (.cons .bool (.cons .int (.cons .sl (.cons .int (.cons .int .nil))))))))))))))) (enc_splice api_Certificate.enc_len (getI_at he_7) (o := 0) (x' := y_12.1) (Nat.le_of_ble_eq_true rfl) rfl rfl)) rfl rfl ?_
    refine ch_n fun hU186_54 => ?_
    refine sr_ 186 202 hU186_54 ?_
    refine c0_ rfl rfl .move rfl rfl ?_
    refine c0_ rfl rfl .assign rfl rfl ?_
    refine ch_n fun hU202_55 => ?_
    refine aw_r ?_
    obtain rfl := Option.some.inj hg
    exact ⟨[_], _, [_], [(0, 0)], .cons (.tmp rfl) .nil, ⟨rfl, rfl⟩, .frz rfl (look_ne rfl), ⟨.inl ⟨0, _, rfl, rfl, ⟨rfl, .cons (.sl _ _) (.cons (.val _) .nil)⟩⟩, trivial⟩, rfl, rfl, rfl, rfl⟩
   ·replace hg := cond_f h52 hg
    refine aw_s ?_
    refine sr_ 2 18 mk_U ?_
    refine c0_ rfl rfl .move rfl rfl ?_
    refine c0_ rfl rfl .assign rfl rfl ?_
    refine ch_n fun hU18_56 => ?_
    refine aw_r ?_
    obtain rfl := Option.some.inj hg
    exact ⟨[_], _, [_], [(0, 0)], .cons (.tmp rfl) .nil, ⟨rfl, rfl⟩, .frz rfl (look_ne rfl), ⟨.inl ⟨0, _, rfl, rfl, ⟨rfl, .cons (.sl _ _) (.cons (.val _) .nil)⟩⟩, trivial⟩, rfl, rfl, rfl, rfl⟩
theorem w_make_Dice_Word (d : cipherplanmake_Dice) (l : (List ByteArray)) (r : ByteArray × cipherplanmake_Dice) (hg : g_make_Dice_Word d l = some r) : Fn Try.prog 16 1 [.ptr 0 0, .sl 1 (encL eS l)] [.box [.sl 1 (encL eI d.L), .val (.int .i64 d.At)] 58] (fun d b => d = .val (.string r.1) ∧ b = [.box [.sl 1 (encL eI r.2.L), .val (.int .i64 r.2.At)] 58]) := by
 unfold g_make_Dice_Word at hg
 refine Fn.of Try.func16 rfl rfl rfl fun w0 I ρ0 => ?_
 show awp _ ⟨w0, I, ρ0, 1, 1, 12⟩ _ _ _
 refine sr_ 1 9 mk_U ?_
 refine c0_ rfl rfl .assign rfl rfl ?_
 refine ch_n fun hU9_1 => ?_
 refine sr_ 9 73 hU9_1 ?_
 iterate 3 refine c0_ rfl rfl .move rfl rfl ?_
 refine c0_ rfl rfl (r_lenS sl41 eS_len) rfl rfl ?_
 obtain ⟨y, hy, hg⟩ := bind_some hg
 refine ch_callP (rd := [0]) (ps := [0]) (gs := []) false rfl (w_make_Dice_Next d (l.length : Int) _ hy) rfl rfl (.cons (.ptr rfl) (.cons .val .nil)) ⟨_, _, _, rfl, .head _, ⟨_, rfl, (by repeat' (first | exact AgL.nil | apply AgL.cons | exact Ag.val | exact Ag.sl | exact Ag.nils))⟩, rfl⟩ rfl (by intro h; cases h) rfl rfl rfl rfl ?_
 obtain ⟨e, he, hg⟩ := bind_some hg
 refine c0_ rfl rfl (r_idxS sl41 eS_len (getI_ix he) (getI_at he)) rfl rfl ?_
 refine c0_ rfl rfl (r_loadE1 ty9 (enc_cell eS_len (getI_at he) (o := 0) (c := .str e) rfl rfl)) rfl rfl ?_
 refine c0_ rfl rfl .assign rfl rfl ?_
 refine ch_n fun hU73_2 => ?_
 refine aw_r ?_
 obtain rfl := Option.some.inj hg
 exact ⟨[_], _, [_], [(0, 0)], .cons (.tmp rfl) .nil, ⟨rfl, rfl⟩, .val _, ⟨.inl ⟨0, _, rfl, rfl, ⟨rfl, .cons (.sl _ _) (.cons (.val _) .nil)⟩⟩, trivial⟩, rfl, rfl, rfl, rfl⟩
theorem w_law04_ChainMade (l : (List Int)) (day : Int) (name : ByteArray) (r : Bool) (hg : g_law04_ChainMade l day name = some r) : Fn Try.prog 3 0 [.sl 1 (encL eI l), .val (.int .i64 day), .val (.string name)] [] (fun d b => d = .val (.bool r) ∧ b = []) := by
 unfold g_law04_ChainMade at hg
 refine Fn.of Try.func3 rfl rfl rfl fun w0 I ρ0 => ?_
 show awp _ ⟨w0, I, ρ0, 0, 0, 100⟩ _ _ _
 refine sr_ 0 8 mk_U ?_
 refine c0_ rfl rfl .assign rfl rfl ?_
 refine ch_n fun hU8_1 => ?_
 refine awp_seq ?_
 refine awp_cut (ι := Bool) (fun (x21_1 : Bool) => mk [(0, .sl 1 (encL eI l)), (1, .val (.int .i64 day)), (2, .val (.string name)), (21, .val (.bool x21_1))] [] 0) (fun (x21_1 : Bool) => g_law04_ChainMade.j1 l day name x21_1 = some r) ?_ ?_
 ·refine awp_region (sys _ _ []) 8 72 hU8_1 rfl rfl ?_
  refine c0_ rfl rfl .move rfl rfl ?_
  obtain ⟨y, hy, hg⟩ := bind_some hg
  refine ch_callP (rd := []) (ps := []) (gs := []) false rfl (w_make_Light l _ hy) rfl rfl (.cons .sl .nil) rfl rfl (by intro h; cases h) rfl rfl rfl rfl ?_
  refine c0_ rfl rfl r_not rfl rfl ?_
  refine c0_ rfl rfl .move rfl rfl ?_
  rcases Bool.eq_false_or_eq_true (!y) with h2 | h2
  ·replace hg := cond_t h2 hg
   iterate 3 refine ch_skip (gdv_f rfl rfl h2) rfl ?_
   refine c0_ rfl rfl (r_pickT h2) rfl rfl ?_
   refine ch_n fun hU72_3 => ?_
   exact ⟨true, hg, Sub.lists [] rfl rfl ⟨⟨_, rfl, .sl _ _⟩, ⟨_, rfl, .val _⟩, ⟨_, rfl, .val _⟩, ⟨_, rfl, .val _⟩, trivial⟩ trivial⟩
  ·replace hg := cond_f h2 hg
   refine c0_ (gdv_t rfl rfl h2) rfl .move rfl rfl ?_
   refine c0_ (gdv_t rfl rfl h2) rfl (r_lenT und9) rfl rfl ?_
   refine c0_ (gdv_t rfl rfl h2) rfl r_gtr rfl rfl ?_
   refine c0_ rfl rfl (r_pickF h2) rfl rfl ?_
   refine ch_n fun hU72_4 => ?_
   exact ⟨decide (100 < (name.size : Int)), hg, Sub.lists [] rfl rfl ⟨⟨_, rfl, .sl _ _⟩, ⟨_, rfl, .val _⟩, ⟨_, rfl, .val _⟩, ⟨_, rfl, .val _⟩, trivial⟩ trivial⟩
 ·rintro x21_1 hg
  replace hg : g_law04_ChainMade.j1 l day name x21_1 = some r := hg
  show awp _ _ _ _ (mk _ _ _)
  unfold g_law04_ChainMade.j1 at hg
  refine awp_cond rfl (fun h5 => ?_) (fun h5 => ?_)
  ·replace hg := cond_t h5 hg
   refine sr_ 0 16 mk_U ?_
   obtain ⟨y_2, hy_2, hg⟩ := bind_some hg
   refine ch_callP (rd := []) (ps := []) (gs := []) false rfl (w_law04_awake  _ hy_2) rfl rfl .nil rfl rfl (by intro h; cases h) rfl rfl rfl rfl ?_
   refine c0_ rfl rfl .assign rfl rfl ?_
   refine ch_n fun hU16_6 => ?_
   refine aw_r ?_
   obtain rfl := Option.some.inj hg
   exact ⟨[_], _, [], [], .cons (.tmp rfl) .nil, ⟨rfl, rfl⟩, .val _, trivial, rfl, rfl, rfl, rfl⟩
  ·replace hg := cond_f h5 hg
   refine aw_s ?_
   refine sr_ 0 24 mk_U ?_
   refine c0_ rfl rfl .move rfl rfl ?_
   obtain ⟨y_3, hy_3, hg⟩ := bind_some hg
   refine ch_call (rd := []) (ps := []) (gs := []) false rfl (w_make_Roll l _ hy_3) rfl rfl (.cons .sl .nil) rfl rfl (by intro h; cases h) rfl (by intro h; first | (cases h; done) | exact ⟨_, _, ⟨rfl, rfl⟩, by simp, by simp⟩) ?_
   rintro _ _ ⟨rfl, rfl⟩
   refine c0_ rfl rfl .assign rfl rfl ?_
   refine ch_n fun hU24_7 => ?_
   refine sr_ 24 48 hU24_7 ?_
   refine c0_ rfl rfl .move rfl rfl ?_
   obtain ⟨y_4, hy_4, hg⟩ := bind_some hg
   refine ch_callP (rd := [8]) (ps := [8]) (gs := []) false rfl (w_law04_made y_3 _ hy_4) rfl rfl (.cons (.ptr rfl) .nil) ⟨_, _, _, rfl, .head _, ⟨_, rfl, (by repeat' (first | exact AgL.nil | apply AgL.cons | exact Ag.val | exact Ag.sl | exact Ag.nils))⟩, rfl⟩ rfl (by intro h; cases h) rfl rfl rfl rfl ?_
   refine c0_ rfl rfl .assign rfl rfl ?_
   refine ch_n fun hU48_8 => ?_
   refine awp_seq ?_
   refine awp_draw (sys _ _ [48, 56, 64, 120, 128]) (by kernel_rfl) [0, 0, 0, 7, 0, 16, 63, 127, 48, 0, 0, 1840, 0, 4400, 16176, 32560, 12799, 131071] 48 192 hU48_8 rfl rfl (by kernel_rfl) ?_
   refine ch_z (rd := []) rfl rfl (r_buildFull sl22 z3 (by decide) rfl rfl rfl rfl ck3 (cs := [.int .i64 1, .int .i64 2]) (.cons .int (.cons .int .nil)) rfl (l := ([1, 2] : List Int)) (f := eI) rfl) rfl rfl rfl ?_
   refine ch_z (rd := []) rfl rfl (r_buildFull sl22 z3 (by decide) rfl rfl rfl rfl ck3 (cs := [.int .i64 1]) (.cons .int .nil) rfl (l := ([1] : List Int)) (f := eI) rfl) rfl rfl rfl ?_
   refine ch_z (rd := []) rfl rfl (r_buildFull sl22 z3 (by decide) rfl rfl rfl rfl ck3 (cs := [.int .i64 2, .int .i64 11]) (.cons .int (.cons .int .nil)) rfl (l := ([2, 11] : List Int)) (f := eI) rfl) rfl rfl rfl ?_
   refine c0_ rfl rfl (r_buildFull sl29 z22 (by decide) rfl rfl rfl rfl ck22 (cs := [.sl 1 (encL eI ([1, 2] : List Int)), .sl 1 (encL eI ([1] : List Int)), .sl 1 (encL eI ([2, 11] : List Int)), .sl 1 (encL eI [])]) (.cons .sl (.cons .sl (.cons .sl (.cons .nil .nil)))) rfl (l := ([([1, 2] : List Int), ([1] : List Int), ([2, 11] : List Int), ([] : (List Int))] : List (List Int))) (f := (eL 1 eI)) rfl) rfl rfl ?_
   refine c0_ rfl rfl .move rfl rfl ?_
   obtain ⟨y_5, hy_5, hg⟩ := bind_some hg
   refine ch_callP (rd := [8]) (ps := [8]) (gs := []) false rfl (w_make_Dice_Next y_4.2 4 _ hy_5) rfl rfl (.cons (.ptr rfl) (.cons .val .nil)) ⟨_, _, _, rfl, .head _, ⟨_, rfl, (by repeat' (first | exact AgL.nil | apply AgL.cons | exact Ag.val | exact Ag.sl | exact Ag.nils))⟩, rfl⟩ rfl (by intro h; cases h) rfl rfl rfl rfl ?_
   obtain ⟨e, he, hg⟩ := bind_some hg
   refine ch_s (rd := [72]) rfl rfl (r_idxR sl29 (eL_len _ _) (getI_ix he) (getI_at he)) rfl rfl ?_
   refine ch_s (rd := [72]) rfl rfl (.loadR1 ty22 (enc_cell (eL_len _ _) (getI_at he) (o := 0) (c := .sl 1 (encL eI e)) rfl rfl)) rfl rfl ?_
   obtain ⟨y_6, hy_6, hg⟩ := bind_some hg
   refine ch_callP (rd := []) (ps := []) (gs := []) false rfl (w_law04_hashes  _ hy_6) rfl rfl .nil rfl rfl (by intro h; cases h) rfl rfl rfl rfl ?_
   refine ch_z (rd := []) rfl rfl (r_buildFull sl22 z3 (by decide) rfl rfl rfl rfl ck3 (cs := [.int .i64 3]) (.cons .int .nil) rfl (l := ([3] : List Int)) (f := eI) rfl) rfl rfl rfl ?_
   refine ch_z (rd := []) rfl rfl (r_buildFull sl22 z3 (by decide) rfl rfl rfl rfl ck3 (cs := [.int .i64 2, .int .i64 3, .int .i64 4]) (.cons .int (.cons .int (.cons .int .nil))) rfl (l := ([2, 3, 4] : List Int)) (f := eI) rfl) rfl rfl rfl ?_
   refine c0_ rfl rfl (r_buildFull sl29 z22 (by decide) rfl rfl rfl rfl ck22 (cs := [.sl 1 (encL eI y_6), .sl 1 (encL eI ([3] : List Int)), .sl 1 (encL eI ([2, 3, 4] : List Int))]) (.cons .sl (.cons .sl (.cons .sl .nil))) rfl (l := ([y_6, ([3] : List Int), ([2, 3, 4] : List Int)] : List (List Int))) (f := (eL 1 eI)) rfl) rfl rfl ?_
   refine c0_ rfl rfl .move rfl rfl ?_
   obtain ⟨y_7, hy_7, hg⟩ := bind_some hg
   refine ch_callP (rd := [8]) (ps := [8]) (gs := []) false rfl (w_make_Dice_Next y_5.2 3 _ hy_7) rfl rfl (.cons (.ptr rfl) (.cons .val .nil)) ⟨_, _, _, rfl, .head _, ⟨_, rfl, (by repeat' (first | exact AgL.nil | apply AgL.cons | exact Ag.val | exact Ag.sl | exact Ag.nils))⟩, rfl⟩ rfl (by intro h; cases h) rfl rfl rfl rfl ?_
   obtain ⟨e_2, he_2, hg⟩ := bind_some hg
   refine ch_s (rd := [136]) rfl rfl (r_idxR sl29 (eL_len _ _) (getI_ix he_2) (getI_at he_2)) rfl rfl ?_
   refine ch_s (rd := [136]) rfl rfl (.loadR1 ty22 (enc_cell (eL_len _ _) (getI_at he_2) (o := 0) (c := .sl 1 (encL eI e_2)) rfl rfl)) rfl rfl ?_
   refine c0_ rfl rfl .assign rfl rfl ?_
   refine c0_ rfl rfl .assign rfl rfl ?_
   refine ch_n fun hU192_9 => ?_
   refine awp_seq ?_
   refine sr_ 192 200 hU192_9 ?_
   refine c0_ rfl rfl .assign rfl rfl ?_
   refine ch_n fun hU200_10 => ?_
   refine awp_block ?_
   obtain ⟨n2, hg⟩ := loop_some hg
   refine awp_loop (ι := (Int) × Nat) (fun ((i_2, _) : (Int) × Nat) => mk [(1, .val (.int .i64 day)), (2, .val (.string name)), (7, .ptr 0 0), (8, .sl 15 (encL api_Certificate.enc y_4.1)), (9, .sl 1 (encL eI e)), (10, .sl 1 (encL eI e_2)), (11, .val (.int .i64 i_2))] [(0, .box [.sl 1 (encL eI y_7.2.L), .val (.int .i64 y_7.2.At)] 58)] 1) (fun ((i_2, nq') : (Int) × Nat) => iter (fun q' => g_law04_ChainMade.l2 day name y_4 e y_7 e_2 q') nq' i_2 = some r) (fun q => q.2) (-1, n2) (Sub.lists [(0, 8)] rfl rfl ⟨⟨_, rfl, .val _⟩, ⟨_, rfl, .val _⟩, ⟨_, rfl, .ptr rfl⟩, ⟨_, rfl, .sl _ _⟩, ⟨_, rfl, .sl _ _⟩, ⟨_, rfl, .sl _ _⟩, ⟨_, rfl, .val _⟩, trivial⟩ ⟨.inl ⟨8, _, rfl, rfl, ⟨rfl, .cons (.sl _ _) (.cons (.val _) .nil)⟩⟩, trivial⟩) hg ?_
   rintro ⟨i_2, n2⟩ hg
   obtain ⟨m2, o2, rfl, hg, hn2⟩ := iter_some (show iter (fun q' => g_law04_ChainMade.l2 day name y_4 e y_7 e_2 q') n2 i_2 = some r from hg)
   replace hg : g_law04_ChainMade.l2 day name y_4 e y_7 e_2 i_2 = some o2 := hg
   show awp _ _ _ _ (mk _ _ _)
   unfold g_law04_ChainMade.l2 at hg
   refine awp_seq ?_
   refine sr_ 1 33 mk_U ?_
   refine c0_ rfl rfl .move rfl rfl ?_
   refine c0_ rfl rfl .move rfl rfl ?_
   refine c0_ rfl rfl (r_lenS sl27 api_Certificate.enc_len) rfl rfl ?_
   refine c0_ rfl rfl r_leq rfl rfl ?_
   refine ch_n fun hU33_11 => ?_
   refine awp_cond rfl (fun h12 => ?_) (fun h12 => ?_)
   ·replace hg := cond_t h12 hg
    refine aw_s ?_
    refine awp_seq ?_
    refine awp_block ?_
    refine sr_ 33 89 hU33_11 ?_
    refine c0_ rfl rfl .move rfl rfl ?_
    refine c0_ rfl rfl .move rfl rfl ?_
    obtain ⟨y_8, hy_8, hg⟩ := bind_some hg
    refine ch_callP (rd := []) (ps := []) (gs := []) false rfl (w_chain_Path y_4.1 i_2 _ hy_8) rfl rfl (.cons .sl (.cons .val .nil)) rfl rfl (by intro h; cases h) rfl rfl rfl rfl ?_
    refine c0_ rfl rfl .move rfl rfl ?_
    refine c0_ rfl rfl .move rfl rfl ?_
    obtain ⟨y_9, hy_9, hg⟩ := bind_some hg
    refine ch_callP (rd := []) (ps := []) (gs := []) false rfl (w_ref04_Path y_4.1 i_2 _ hy_9) rfl rfl (.cons .sl (.cons .val .nil)) rfl rfl (by intro h; cases h) rfl rfl rfl rfl ?_
    refine c0_ rfl rfl (r_bneq und4) rfl rfl ?_
    refine ch_n fun hU89_13 => ?_
    refine awp_cond rfl (fun h14 => ?_) (fun h14 => ?_)
    ·replace hg := cond_t h14 hg
     refine sr_ 89 97 hU89_13 ?_
     refine c0_ rfl rfl .assign rfl rfl ?_
     refine ch_n fun hU97_15 => ?_
     refine aw_r ?_
     replace hg := leave hg hn2
     obtain rfl := Option.some.inj hg
     exact ⟨[_], _, [], [], .cons (.tmp rfl) .nil, ⟨rfl, rfl⟩, .val _, trivial, rfl, rfl, rfl, rfl⟩
    ·replace hg := cond_f h14 hg
     refine aw_s ?_
     refine awp_region (sys _ _ []) 89 113 hU89_13 rfl rfl ?_
     refine c0_ rfl rfl .move rfl rfl ?_
     refine c0_ rfl rfl r_add rfl rfl ?_
     refine c0_ rfl rfl .assign rfl rfl ?_
     refine ch_n fun hU113_16 => ?_
     obtain rfl := Option.some.inj hg
     exact ⟨(W (i_2 + 1), m2), Nat.lt_succ_self _, hn2, Sub.lists [(0, 0)] rfl rfl ⟨⟨_, rfl, .val _⟩, ⟨_, rfl, .val _⟩, ⟨_, rfl, .ptr rfl⟩, ⟨_, rfl, .sl _ _⟩, ⟨_, rfl, .sl _ _⟩, ⟨_, rfl, .sl _ _⟩, ⟨_, rfl, .val _⟩, trivial⟩ ⟨.inl ⟨0, _, rfl, rfl, ⟨rfl, .cons (.sl _ _) (.cons (.val _) .nil)⟩⟩, trivial⟩⟩
   ·replace hg := cond_f h12 hg
    refine awp_exit ?_
    repeat first | refine st_ ?_ | refine sn_ ?_
    replace hg := leave hg hn2
    refine awp_seq ?_
    refine awp_region (sys _ _ [41]) 33 65 hU33_11 rfl rfl ?_
    refine c0_ rfl rfl .move rfl rfl ?_
    refine ch_z (rd := []) rfl rfl (r_buildFull sl22 z3 (by decide) rfl rfl rfl rfl ck3 (cs := [.int .i64 15, .int .i64 5, .int .i64 0, .int .i64 19, .int .i64 60, .int .i64 500]) (.cons .int (.cons .int (.cons .int (.cons .int (.cons .int (.cons .int .nil)))))) rfl (l := ([15, 5, 0, 19, 60, 500] : List Int)) (f := eI) rfl) rfl rfl rfl ?_
    obtain ⟨y_10, hy_10, hg⟩ := bind_some hg
    refine ch_callP (rd := [0]) (ps := [0]) (gs := []) false rfl (w_make_Dice_Of y_7.2 ([15, 5, 0, 19, 60, 500] : List Int) _ hy_10) rfl rfl (.cons (.ptr rfl) (.cons .sl .nil)) ⟨_, _, _, rfl, .head _, ⟨_, rfl, (by repeat' (first | exact AgL.nil | apply AgL.cons | exact Ag.val | exact Ag.sl | exact Ag.nils))⟩, rfl⟩ rfl (by intro h; cases h) rfl rfl rfl rfl ?_
    refine c0_ rfl rfl .assign rfl rfl ?_
    refine ch_n fun hU65_17 => ?_
    refine awp_seq ?_
    refine awp_region (sys _ _ [73]) 65 97 hU65_17 rfl rfl ?_
    refine c0_ rfl rfl .move rfl rfl ?_
    refine ch_z (rd := []) rfl rfl (r_buildFull sl41 z9 (by decide) rfl rfl rfl rfl ck9 (cs := [.str (⟨#[119, 101, 98]⟩ : ByteArray), .str (⟨#[119, 101, 98, 120]⟩ : ByteArray), .str (⟨#[100, 98]⟩ : ByteArray), .str (⟨#[]⟩ : ByteArray)]) (.cons .str (.cons .str (.cons .str (.cons .str .nil)))) rfl (l := ([(⟨#[119, 101, 98]⟩ : ByteArray), (⟨#[119, 101, 98, 120]⟩ : ByteArray), (⟨#[100, 98]⟩ : ByteArray), (⟨#[]⟩ : ByteArray)] : List ByteArray)) (f := eS) rfl) rfl rfl rfl ?_
    obtain ⟨y_11, hy_11, hg⟩ := bind_some hg
    refine ch_callP (rd := [0]) (ps := [0]) (gs := []) false rfl (w_make_Dice_Word y_10.2 ([(⟨#[119, 101, 98]⟩ : ByteArray), (⟨#[119, 101, 98, 120]⟩ : ByteArray), (⟨#[100, 98]⟩ : ByteArray), (⟨#[]⟩ : ByteArray)] : List ByteArray) _ hy_11) rfl rfl (.cons (.ptr rfl) (.cons .sl .nil)) ⟨_, _, _, rfl, .head _, ⟨_, rfl, (by repeat' (first | exact AgL.nil | apply AgL.cons | exact Ag.val | exact Ag.sl | exact Ag.nils))⟩, rfl⟩ rfl (by intro h; cases h) rfl rfl rfl rfl ?_
    refine c0_ rfl rfl .assign rfl rfl ?_
    refine ch_n fun hU97_18 => ?_
    refine sr_ 97 409 hU97_18 ?_
    iterate 5 refine c0_ rfl rfl .move rfl rfl ?_
    obtain ⟨y_12, hy_12, hg⟩ := bind_some hg
    refine ch_callP (rd := []) (ps := []) (gs := []) false rfl (w_chain_Check y_4.1 e e_2 y_10.1 y_11.1 _ hy_12) rfl rfl (.cons .sl (.cons .sl (.cons .sl (.cons .val (.cons .val .nil))))) rfl rfl (by intro h; cases h) rfl rfl rfl rfl ?_
    iterate 5 refine c0_ rfl rfl .move rfl rfl ?_
    obtain ⟨y_13, hy_13, hg⟩ := bind_some hg
    refine ch_callP (rd := []) (ps := []) (gs := []) false rfl (w_ref04_Check y_4.1 e e_2 y_10.1 y_11.1 _ hy_13) rfl rfl (.cons .sl (.cons .sl (.cons .sl (.cons .val (.cons .val .nil))))) rfl rfl (by intro h; cases h) rfl rfl rfl rfl ?_
    refine c0_ rfl rfl r_eql rfl rfl ?_
    refine c0_ rfl rfl .move rfl rfl ?_
    rcases Bool.eq_false_or_eq_true (decide (y_12 = y_13)) with h19 | h19
    ·replace hg := cond_t h19 hg
     refine c0_ (gdv_t rfl rfl h19) rfl .move rfl rfl ?_
     refine c0_ (gdv_t rfl rfl h19) rfl .move rfl rfl ?_
     obtain ⟨y_14, hy_14, hg⟩ := bind_some hg
     refine ch_callP (rd := []) (ps := []) (gs := []) false (gdv_t rfl rfl h19) (w_law04_hashes  _ hy_14) rfl rfl .nil rfl rfl (by intro h; cases h) rfl rfl rfl rfl ?_
     refine c0_ (gdv_t rfl rfl h19) rfl .move rfl rfl ?_
     refine c0_ (gdv_t rfl rfl h19) rfl .move rfl rfl ?_
     obtain ⟨y_15, hy_15, hg⟩ := bind_some hg
     refine ch_callP (rd := []) (ps := []) (gs := []) false (gdv_t rfl rfl h19) (w_chain_Check y_4.1 e y_14 day name _ hy_15) rfl rfl (.cons .sl (.cons .sl (.cons .sl (.cons .val (.cons .val .nil))))) rfl rfl (by intro h; cases h) rfl rfl rfl rfl ?_
     refine c0_ (gdv_t rfl rfl h19) rfl .move rfl rfl ?_
     refine c0_ (gdv_t rfl rfl h19) rfl .move rfl rfl ?_
     obtain ⟨y_16, hy_16, hg⟩ := bind_some hg
     refine ch_callP (rd := []) (ps := []) (gs := []) false (gdv_t rfl rfl h19) (w_law04_hashes  _ hy_16) rfl rfl .nil rfl rfl (by intro h; cases h) rfl rfl rfl rfl ?_
     refine c0_ (gdv_t rfl rfl h19) rfl .move rfl rfl ?_
     refine c0_ (gdv_t rfl rfl h19) rfl .move rfl rfl ?_
     obtain ⟨y_17, hy_17, hg⟩ := bind_some hg
     refine ch_callP (rd := []) (ps := []) (gs := []) false (gdv_t rfl rfl h19) (w_ref04_Check y_4.1 e y_16 day name _ hy_17) rfl rfl (.cons .sl (.cons .sl (.cons .sl (.cons .val (.cons .val .nil))))) rfl rfl (by intro h; cases h) rfl rfl rfl rfl ?_
     refine c0_ (gdv_t rfl rfl h19) rfl r_eql rfl rfl ?_
     refine c0_ rfl rfl (r_pickT h19) rfl rfl ?_
     refine c0_ rfl rfl .move rfl rfl ?_
     rcases Bool.eq_false_or_eq_true (decide (y_15 = y_17)) with h20 | h20
     ·replace hg := cond_t h20 hg
      refine c0_ (gdv_t rfl rfl h20) rfl .move rfl rfl ?_
      obtain ⟨y_18, hy_18, hg⟩ := bind_some hg
      refine ch_callP (rd := []) (ps := []) (gs := []) false (gdv_t rfl rfl h20) (w_chain_Until y_4.1 _ hy_18) rfl rfl (.cons .sl .nil) rfl rfl (by intro h; cases h) rfl rfl rfl rfl ?_
      refine c0_ (gdv_t rfl rfl h20) rfl .move rfl rfl ?_
      obtain ⟨y_19, hy_19, hg⟩ := bind_some hg
      refine ch_callP (rd := []) (ps := []) (gs := []) false (gdv_t rfl rfl h20) (w_ref04_Until y_4.1 _ hy_19) rfl rfl (.cons .sl .nil) rfl rfl (by intro h; cases h) rfl rfl rfl rfl ?_
      refine c0_ (gdv_t rfl rfl h20) rfl r_eql rfl rfl ?_
      refine c0_ rfl rfl (r_pickT h20) rfl rfl ?_
      refine c0_ rfl rfl .move rfl rfl ?_
      rcases Bool.eq_false_or_eq_true (decide (y_18 = y_19)) with h21 | h21
      ·replace hg := cond_t h21 hg
       obtain ⟨y_20, hy_20, hg⟩ := bind_some hg
       refine ch_callP (rd := []) (ps := []) (gs := []) false (gdv_t rfl rfl h21) (w_law04_awake  _ hy_20) rfl rfl .nil rfl rfl (by intro h; cases h) rfl rfl rfl rfl ?_
       refine c0_ rfl rfl (r_pickT h21) rfl rfl ?_
       refine c0_ rfl rfl .assign rfl rfl ?_
       refine ch_n fun hU409_22 => ?_
       refine aw_r ?_
       obtain rfl := Option.some.inj hg
       exact ⟨[_], _, [], [], .cons (.tmp rfl) .nil, ⟨rfl, rfl⟩, .val _, trivial, rfl, rfl, rfl, rfl⟩
      ·replace hg := cond_f h21 hg
       refine ch_skip (gdv_f rfl rfl h21) rfl ?_
       refine c0_ rfl rfl (r_pickF h21) rfl rfl ?_
       refine c0_ rfl rfl .assign rfl rfl ?_
       refine ch_n fun hU409_23 => ?_
       refine aw_r ?_
       obtain rfl := Option.some.inj hg
       exact ⟨[_], _, [], [], .cons (.tmp rfl) .nil, ⟨rfl, rfl⟩, .val _, trivial, rfl, rfl, rfl, rfl⟩
     ·replace hg := cond_f h20 hg
      iterate 5 refine ch_skip (gdv_f rfl rfl h20) rfl ?_
      refine c0_ rfl rfl (r_pickF h20) rfl rfl ?_
      refine c0_ rfl rfl .move rfl rfl ?_
      refine ch_skip (gdv_f rfl rfl rfl) rfl ?_
      refine c0_ rfl rfl (r_pickF rfl) rfl rfl ?_
      refine c0_ rfl rfl .assign rfl rfl ?_
      refine ch_n fun hU409_24 => ?_
      refine aw_r ?_
      obtain rfl := Option.some.inj hg
      exact ⟨[_], _, [], [], .cons (.tmp rfl) .nil, ⟨rfl, rfl⟩, .val _, trivial, rfl, rfl, rfl, rfl⟩
    ·replace hg := cond_f h19 hg
     iterate 13 refine ch_skip (gdv_f rfl rfl h19) rfl ?_
     refine c0_ rfl rfl (r_pickF h19) rfl rfl ?_
     refine c0_ rfl rfl .move rfl rfl ?_
     iterate 5 refine ch_skip (gdv_f rfl rfl rfl) rfl ?_
     refine c0_ rfl rfl (r_pickF rfl) rfl rfl ?_
     refine c0_ rfl rfl .move rfl rfl ?_
     refine ch_skip (gdv_f rfl rfl rfl) rfl ?_
     refine c0_ rfl rfl (r_pickF rfl) rfl rfl ?_
     refine c0_ rfl rfl .assign rfl rfl ?_
     refine ch_n fun hU409_25 => ?_
     refine aw_r ?_
     obtain rfl := Option.some.inj hg
     exact ⟨[_], _, [], [], .cons (.tmp rfl) .nil, ⟨rfl, rfl⟩, .val _, trivial, rfl, rfl, rfl, rfl⟩
end Go.Proofs.Ytadjcdhcdmiifaa
