/- The program computes the plain functions. -/
import Derived.Test.YtlcfdnjokgbccaaGreatT1
import Derived.Test.YtlcfdnjokgbccaaGreatA1
import Derived.Test.YtlcfdnjokgbccaaGreatA2
import Derived.Test.YtlcfdnjokgbccaaGreatA4
import Derived.Test.YtlcfdnjokgbccaaGreatA5
import Derived.Test.YtlcfdnjokgbccaaGreatA6
set_option linter.unusedVariables false
set_option linter.unusedSimpArgs false
set_option maxRecDepth 100000
set_option maxHeartbeats 1600000
namespace Go.Proofs.YtlcfdnjokgbccaaGreat
open Go.RowKit
theorem w_law03_made (d : cipherplanmake_Dice) (r : api_Certificate × cipherplanmake_Dice) (hg : g_law03_made d = some r) : Fn Tryz.prog 10 1 [.ptr 0 0] [.box [.sl 1 (encL eI d.L), .val (.int .i64 d.At)] 68] (fun d b => d = .agg (api_Certificate.dv r.1) ∧ b = [.box [.sl 1 (encL eI r.2.L), .val (.int .i64 r.2.At)] 68]) := by
 unfold g_law03_made at hg
 refine Fn.of Tryz.func10 rfl rfl rfl fun w0 I ρ0 => ?_
 show awp _ ⟨w0, I, ρ0, 1, 1, 107⟩ _ _ _
 refine sr_ 1 9 mk_U ?_
 refine go_ ?_
 refine ch_n fun hU => ?_
 refine awp_seq ?_
 refine awp_region (sys _ _ [25, 49]) 9 153 hU rfl rfl ?_
 refine go_ ?_
 refine ch_z (rd := []) rfl rfl (r_buildFull sl29 z9 (by decide) rfl rfl rfl rfl ck9 (cs := [.str (⟨#[99, 97]⟩ : ByteArray), .str (⟨#[114, 111, 111, 116]⟩ : ByteArray)]) (.cons .str (.cons .str .nil)) rfl (l := ([(⟨#[99, 97]⟩ : ByteArray), (⟨#[114, 111, 111, 116]⟩ : ByteArray)] : List ByteArray)) (f := eS) rfl) rfl rfl rfl ?_
 obtain ⟨y, hy, hg⟩ := bind_some hg
 refine cb_ [0] [0] [] false (w_make_Dice_Word _ _ _ hy) ?_
 refine go_ ?_
 refine ch_z (rd := []) rfl rfl (r_buildFull sl29 z9 (by decide) rfl rfl rfl rfl ck9 (cs := [.str (⟨#[119, 101, 98]⟩ : ByteArray), .str (⟨#[100, 98]⟩ : ByteArray)]) (.cons .str (.cons .str .nil)) rfl (l := ([(⟨#[119, 101, 98]⟩ : ByteArray), (⟨#[100, 98]⟩ : ByteArray)] : List ByteArray)) (f := eS) rfl) rfl rfl rfl ?_
 obtain ⟨y_2, hy_2, hg⟩ := bind_some hg
 refine cb_ [0] [0] [] false (w_make_Dice_Word _ _ _ hy_2) ?_
 refine go_ ?_
 obtain ⟨y_3, hy_3, hg⟩ := bind_some hg
 refine cb_ [0] [0] [] false (w_make_Key _ _ hy_3) ?_
 refine go_ ?_
 obtain ⟨y_4, hy_4, hg⟩ := bind_some hg
 refine cb_ [0] [0] [] false (w_make_Dice_Next _ _ _ hy_4) ?_
 refine go_ ?_
 obtain ⟨y_5, hy_5, hg⟩ := bind_some hg
 refine cb_ [0] [0] [] false (w_make_Dice_Next _ _ _ hy_5) ?_
 refine go_ ?_
 obtain ⟨y_6, hy_6, hg⟩ := bind_some hg
 refine cb_ [0] [0] [] false (w_make_Dice_One _ _ _ hy_6) ?_
 obtain ⟨y_7, hy_7, hg⟩ := bind_some hg
 refine cb_ [0] [0] [] false (w_make_Certificate _ _ _ _ _ _ _ _ hy_7) ?_
 refine go_ ?_
 refine ch_n fun hU => ?_
 refine awp_cut (ι := cipherplanmake_Dice × api_Certificate) (fun ((b_1, c_1) : cipherplanmake_Dice × api_Certificate) => mk [(2, .ptr 1 0), (3, .ptr 2 0)] [(0, .box [.sl 1 (encL eI b_1.L), .val (.int .i64 b_1.At)] 68), (1, .box [.val (.int .i64 0), .val (.string (⟨#[]⟩ : ByteArray)), .val (.string (⟨#[]⟩ : ByteArray)), .val (.int .i64 0), .val (.int .i64 0), .val (.int .i64 0), .val (.int .i64 0), .val (.int .i64 0), .val (.int .i64 0), .val (.int .i64 0), .val (.bool false), .val (.int .i64 0), .val (.slice none 0 0), .val (.int .i64 0), .val (.int .i64 0)] 33), (2, .box (api_Certificate.dv c_1) 33)] 3) (fun ((b_1, c_1) : cipherplanmake_Dice × api_Certificate) => g_law03_made.j1 b_1 c_1 = some r) ?_ ?_
 ·refine awp_seq ?_
  refine awp_region (sys _ _ []) 153 169 hU rfl rfl ?_
  refine go_ ?_
  obtain ⟨y_8, hy_8, hg⟩ := bind_some hg
  refine cb_ [0] [0] [] false (w_make_Dice_Next _ _ _ hy_8) ?_
  refine ch_n fun hU => ?_
  refine awp_block ?_
  refine sr_ 169 185 hU ?_
  refine go_ ?_
  refine ch_n fun hU => ?_
  refine cg_ rfl hg (fun h5 hg => ?_) fun h5 hg => ?_
  ·refine awp_region (sys _ _ [193]) 185 225 hU rfl rfl ?_
   refine go_ ?_
   refine ch_z (rd := []) rfl rfl (r_buildFull sl22 z3 (by decide) rfl rfl rfl rfl ck3 (cs := [.int .i64 (-1), .int .i64 1099511627776, .int .i64 1099511627777]) (.cons .int (.cons .int (.cons .int .nil))) rfl (l := ([-1, 1099511627776, 1099511627777] : List Int)) (f := eI) rfl) rfl rfl rfl ?_
   obtain ⟨y_9, hy_9, hg⟩ := bind_some hg
   refine cb_ [0] [0] [] false (w_make_Dice_Of _ _ _ hy_9) ?_
   refine go_ ?_
   refine ch_n fun hU => ?_
   exact ⟨(y_9.2, (api_Certificate.mk y_9.1 y_7.1.Issuer y_7.1.Subject y_7.1.Key y_7.1.KeyId y_7.1.Hash y_7.1.From y_7.1.To y_7.1.Authority y_7.1.Path y_7.1.Names y_7.1.Seal)), hg, sub_ [(0, 0), (1, 1), (2, 137)]⟩
  ·refine awp_seq ?_
   refine awp_region (sys _ _ []) 185 201 hU rfl rfl ?_
   refine go_ ?_
   refine ch_n fun hU => ?_
   refine cg_ rfl hg (fun h8 hg => ?_) fun h8 hg => ?_
   ·refine awp_region (sys _ _ [209]) 201 241 hU rfl rfl ?_
    refine go_ ?_
    refine ch_z (rd := []) rfl rfl (r_buildFull sl29 z9 (by decide) rfl rfl rfl rfl ck9 (cs := [.str (⟨#[]⟩ : ByteArray), .str (⟨#[97, 32, 98]⟩ : ByteArray), .str (⟨#[97, 98, 99, 100, 101, 102, 103, 104, 105, 106, 107, 108, 109, 110, 111, 112, 113, 114, 115, 116, 117, 118, 119, 120, 121, 122, 48, 49, 50, 51, 52, 53, 54]⟩ : ByteArray)]) (.cons .str (.cons .str (.cons .str .nil))) rfl (l := ([(⟨#[]⟩ : ByteArray), (⟨#[97, 32, 98]⟩ : ByteArray), (⟨#[97, 98, 99, 100, 101, 102, 103, 104, 105, 106, 107, 108, 109, 110, 111, 112, 113, 114, 115, 116, 117, 118, 119, 120, 121, 122, 48, 49, 50, 51, 52, 53, 54]⟩ : ByteArray)] : List ByteArray)) (f := eS) rfl) rfl rfl rfl ?_
    obtain ⟨y_10, hy_10, hg⟩ := bind_some hg
    refine cb_ [0] [0] [] false (w_make_Dice_Word _ _ _ hy_10) ?_
    refine go_ ?_
    refine ch_n fun hU => ?_
    exact ⟨(y_10.2, (api_Certificate.mk y_7.1.Serial y_10.1 y_7.1.Subject y_7.1.Key y_7.1.KeyId y_7.1.Hash y_7.1.From y_7.1.To y_7.1.Authority y_7.1.Path y_7.1.Names y_7.1.Seal)), hg, sub_ [(0, 0), (1, 1), (2, 137)]⟩
   ·refine awp_seq ?_
    refine awp_region (sys _ _ []) 201 217 hU rfl rfl ?_
    refine go_ ?_
    refine ch_n fun hU => ?_
    refine cg_ rfl hg (fun h11 hg => ?_) fun h11 hg => ?_
    ·refine awp_region (sys _ _ [225]) 217 257 hU rfl rfl ?_
     refine go_ ?_
     refine ch_z (rd := []) rfl rfl (r_buildFull sl29 z9 (by decide) rfl rfl rfl rfl ck9 (cs := [.str (⟨#[]⟩ : ByteArray), .str (⟨#[120, 9, 121]⟩ : ByteArray), .str (⟨#[97, 98, 99, 100, 101, 102, 103, 104, 105, 106, 107, 108, 109, 110, 111, 112, 113, 114, 115, 116, 117, 118, 119, 120, 121, 122, 48, 49, 50, 51, 52, 53]⟩ : ByteArray)]) (.cons .str (.cons .str (.cons .str .nil))) rfl (l := ([(⟨#[]⟩ : ByteArray), (⟨#[120, 9, 121]⟩ : ByteArray), (⟨#[97, 98, 99, 100, 101, 102, 103, 104, 105, 106, 107, 108, 109, 110, 111, 112, 113, 114, 115, 116, 117, 118, 119, 120, 121, 122, 48, 49, 50, 51, 52, 53]⟩ : ByteArray)] : List ByteArray)) (f := eS) rfl) rfl rfl rfl ?_
     obtain ⟨y_11, hy_11, hg⟩ := bind_some hg
     refine cb_ [0] [0] [] false (w_make_Dice_Word _ _ _ hy_11) ?_
     refine go_ ?_
     refine ch_n fun hU => ?_
     exact ⟨(y_11.2, (api_Certificate.mk y_7.1.Serial y_7.1.Issuer y_11.1 y_7.1.Key y_7.1.KeyId y_7.1.Hash y_7.1.From y_7.1.To y_7.1.Authority y_7.1.Path y_7.1.Names y_7.1.Seal)), hg, sub_ [(0, 0), (1, 1), (2, 137)]⟩
    ·refine awp_seq ?_
     refine awp_region (sys _ _ []) 217 233 hU rfl rfl ?_
     refine go_ ?_
     refine ch_n fun hU => ?_
     refine cg_ rfl hg (fun h14 hg => ?_) fun h14 hg => ?_
     ·refine awp_region (sys _ _ [241, 265]) 233 305 hU rfl rfl ?_
      refine go_ ?_
      refine ch_z (rd := []) rfl rfl (r_buildFull sl22 z3 (by decide) rfl rfl rfl rfl ck3 (cs := [.int .i64 1, .int .i64 17, .int .i64 0, .int .i64 5]) (.cons .int (.cons .int (.cons .int (.cons .int .nil)))) rfl (l := ([1, 17, 0, 5] : List Int)) (f := eI) rfl) rfl rfl rfl ?_
      obtain ⟨y_12, hy_12, hg⟩ := bind_some hg
      refine cb_ [0] [0] [] false (w_make_Dice_Of _ _ _ hy_12) ?_
      refine go_ ?_
      refine ch_z (rd := []) rfl rfl (r_buildFull sl22 z3 (by decide) rfl rfl rfl rfl ck3 (cs := [.int .i64 0, .int .i64 128, .int .i64 511]) (.cons .int (.cons .int (.cons .int .nil))) rfl (l := ([0, 128, 511] : List Int)) (f := eI) rfl) rfl rfl rfl ?_
      obtain ⟨y_13, hy_13, hg⟩ := bind_some hg
      refine cb_ [0] [0] [] false (w_make_Dice_Of _ _ _ hy_13) ?_
      refine c0_ rfl rfl (.build (r := [.val (.int .i64 y_12.1), .val (.int .i64 y_13.1)]) und28 pl28 z28 (by kernel_rfl) rfl) rfl rfl ?_
      refine go_ ?_
      refine ch_n fun hU => ?_
      exact ⟨(y_13.2, (api_Certificate.mk y_7.1.Serial y_7.1.Issuer y_7.1.Subject (api_Use.mk y_12.1 y_13.1) y_7.1.KeyId y_7.1.Hash y_7.1.From y_7.1.To y_7.1.Authority y_7.1.Path y_7.1.Names y_7.1.Seal)), hg, sub_ [(0, 0), (1, 1), (2, 137)]⟩
     ·refine awp_seq ?_
      refine awp_region (sys _ _ []) 233 249 hU rfl rfl ?_
      refine go_ ?_
      refine ch_n fun hU => ?_
      refine cg_ rfl hg (fun h17 hg => ?_) fun h17 hg => ?_
      ·refine awp_region (sys _ _ [257]) 249 289 hU rfl rfl ?_
       refine go_ ?_
       refine ch_z (rd := []) rfl rfl (r_buildFull sl22 z3 (by decide) rfl rfl rfl rfl ck3 (cs := [.int .i64 (-1), .int .i64 2147483648, .int .i64 2147483649]) (.cons .int (.cons .int (.cons .int .nil))) rfl (l := ([-1, 2147483648, 2147483649] : List Int)) (f := eI) rfl) rfl rfl rfl ?_
       obtain ⟨y_14, hy_14, hg⟩ := bind_some hg
       refine cb_ [0] [0] [] false (w_make_Dice_Of _ _ _ hy_14) ?_
       refine go_ ?_
       refine ch_n fun hU => ?_
       exact ⟨(y_14.2, (api_Certificate.mk y_7.1.Serial y_7.1.Issuer y_7.1.Subject y_7.1.Key y_14.1 y_7.1.Hash y_7.1.From y_7.1.To y_7.1.Authority y_7.1.Path y_7.1.Names y_7.1.Seal)), hg, sub_ [(0, 0), (1, 1), (2, 137)]⟩
      ·refine awp_seq ?_
       refine awp_region (sys _ _ []) 249 265 hU rfl rfl ?_
       refine go_ ?_
       refine ch_n fun hU => ?_
       refine cg_ rfl hg (fun h20 hg => ?_) fun h20 hg => ?_
       ·refine awp_region (sys _ _ [273]) 265 313 hU rfl rfl ?_
        refine go_ ?_
        refine ch_z (rd := []) rfl rfl (r_buildFull sl22 z3 (by decide) rfl rfl rfl rfl ck3 (cs := [.int .i64 5, .int .i64 0, .int .i64 22]) (.cons .int (.cons .int (.cons .int .nil))) rfl (l := ([5, 0, 22] : List Int)) (f := eI) rfl) rfl rfl rfl ?_
        obtain ⟨y_15, hy_15, hg⟩ := bind_some hg
        refine cb_ [0] [0] [] false (w_make_Dice_Of _ _ _ hy_15) ?_
        refine c0_ rfl rfl (.build (r := [.val (.int .i64 y_15.1), .val (.int .i64 0)]) und28 pl28 z28 (by kernel_rfl) rfl) rfl rfl ?_
        refine go_ ?_
        refine ch_n fun hU => ?_
        exact ⟨(y_15.2, (api_Certificate.mk y_7.1.Serial y_7.1.Issuer y_7.1.Subject y_7.1.Key y_7.1.KeyId (api_Use.mk y_15.1 0) y_7.1.From y_7.1.To y_7.1.Authority y_7.1.Path y_7.1.Names y_7.1.Seal)), hg, sub_ [(0, 0), (1, 1), (2, 137)]⟩
       ·refine awp_seq ?_
        refine awp_region (sys _ _ []) 265 281 hU rfl rfl ?_
        refine go_ ?_
        refine ch_n fun hU => ?_
        refine cg_ rfl hg (fun h23 hg => ?_) fun h23 hg => ?_
        ·refine awp_region (sys _ _ [289, 313]) 281 361 hU rfl rfl ?_
         refine go_ ?_
         refine ch_z (rd := []) rfl rfl (r_buildFull sl22 z3 (by decide) rfl rfl rfl rfl ck3 (cs := [.int .i64 9, .int .i64 (-1), .int .i64 3]) (.cons .int (.cons .int (.cons .int .nil))) rfl (l := ([9, -1, 3] : List Int)) (f := eI) rfl) rfl rfl rfl ?_
         obtain ⟨y_16, hy_16, hg⟩ := bind_some hg
         refine cb_ [0] [0] [] false (w_make_Dice_Of _ _ _ hy_16) ?_
         refine go_ ?_
         refine ch_z (rd := []) rfl rfl (r_buildFull sl22 z3 (by decide) rfl rfl rfl rfl ck3 (cs := [.int .i64 8, .int .i64 3, .int .i64 40001]) (.cons .int (.cons .int (.cons .int .nil))) rfl (l := ([8, 3, 40001] : List Int)) (f := eI) rfl) rfl rfl rfl ?_
         obtain ⟨y_17, hy_17, hg⟩ := bind_some hg
         refine cb_ [0] [0] [] false (w_make_Dice_Of _ _ _ hy_17) ?_
         refine go_ ?_
         refine ch_n fun hU => ?_
         exact ⟨(y_17.2, (api_Certificate.mk y_7.1.Serial y_7.1.Issuer y_7.1.Subject y_7.1.Key y_7.1.KeyId y_7.1.Hash y_16.1 y_17.1 y_7.1.Authority y_7.1.Path y_7.1.Names y_7.1.Seal)), hg, sub_ [(0, 0), (1, 1), (2, 137)]⟩
        ·refine awp_seq ?_
         refine awp_region (sys _ _ []) 281 297 hU rfl rfl ?_
         refine go_ ?_
         refine ch_n fun hU => ?_
         refine cg_ rfl hg (fun h26 hg => ?_) fun h26 hg => ?_
         ·refine awp_region (sys _ _ [305]) 297 337 hU rfl rfl ?_
          refine go_ ?_
          refine ch_z (rd := []) rfl rfl (r_buildFull sl22 z3 (by decide) rfl rfl rfl rfl ck3 (cs := [.int .i64 1, .int .i64 (-1), .int .i64 8, .int .i64 9]) (.cons .int (.cons .int (.cons .int (.cons .int .nil)))) rfl (l := ([1, -1, 8, 9] : List Int)) (f := eI) rfl) rfl rfl rfl ?_
          obtain ⟨y_18, hy_18, hg⟩ := bind_some hg
          refine cb_ [0] [0] [] false (w_make_Dice_Of _ _ _ hy_18) ?_
          refine go_ ?_
          refine ch_n fun hU => ?_
          exact ⟨(y_18.2, (api_Certificate.mk y_7.1.Serial y_7.1.Issuer y_7.1.Subject y_7.1.Key y_7.1.KeyId y_7.1.Hash y_7.1.From y_7.1.To y_7.1.Authority y_18.1 y_7.1.Names y_7.1.Seal)), hg, sub_ [(0, 0), (1, 1), (2, 137)]⟩
         ·refine awp_seq ?_
          refine awp_region (sys _ _ []) 297 313 hU rfl rfl ?_
          refine go_ ?_
          refine ch_n fun hU => ?_
          refine cg_ rfl hg (fun h29 hg => ?_) fun h29 hg => ?_
          ·refine awp_region (sys _ _ [313, 321, 329]) 313 393 hU rfl rfl ?_
           refine ch_z (rd := []) rfl rfl (r_buildFull sl29 z9 (by decide) rfl rfl rfl rfl ck9 (cs := [.str (⟨#[98]⟩ : ByteArray), .str (⟨#[97]⟩ : ByteArray)]) (.cons .str (.cons .str .nil)) rfl (l := ([(⟨#[98]⟩ : ByteArray), (⟨#[97]⟩ : ByteArray)] : List ByteArray)) (f := eS) rfl) rfl rfl rfl ?_
           refine ch_z (rd := []) rfl rfl (r_buildFull sl29 z9 (by decide) rfl rfl rfl rfl ck9 (cs := [.str (⟨#[97]⟩ : ByteArray), .str (⟨#[97]⟩ : ByteArray)]) (.cons .str (.cons .str .nil)) rfl (l := ([(⟨#[97]⟩ : ByteArray), (⟨#[97]⟩ : ByteArray)] : List ByteArray)) (f := eS) rfl) rfl rfl rfl ?_
           refine ch_z (rd := []) rfl rfl (r_buildFull sl29 z9 (by decide) rfl rfl rfl rfl ck9 (cs := [.str (⟨#[97]⟩ : ByteArray), .str (⟨#[98]⟩ : ByteArray), .str (⟨#[99]⟩ : ByteArray), .str (⟨#[100]⟩ : ByteArray), .str (⟨#[101]⟩ : ByteArray), .str (⟨#[102]⟩ : ByteArray), .str (⟨#[103]⟩ : ByteArray), .str (⟨#[104]⟩ : ByteArray), .str (⟨#[105]⟩ : ByteArray)]) (.cons .str (.cons .str (.cons .str (.cons .str (.cons .str (.cons .str (.cons .str (.cons .str (.cons .str .nil))))))))) rfl (l := ([(⟨#[97]⟩ : ByteArray), (⟨#[98]⟩ : ByteArray), (⟨#[99]⟩ : ByteArray), (⟨#[100]⟩ : ByteArray), (⟨#[101]⟩ : ByteArray), (⟨#[102]⟩ : ByteArray), (⟨#[103]⟩ : ByteArray), (⟨#[104]⟩ : ByteArray), (⟨#[105]⟩ : ByteArray)] : List ByteArray)) (f := eS) rfl) rfl rfl rfl ?_
           refine c0_ rfl rfl (r_buildFull sl69 z29 (by decide) rfl rfl rfl rfl ck29 (cs := [.sl 1 (encL eS []), .sl 1 (encL eS ([(⟨#[98]⟩ : ByteArray), (⟨#[97]⟩ : ByteArray)] : List ByteArray)), .sl 1 (encL eS ([(⟨#[97]⟩ : ByteArray), (⟨#[97]⟩ : ByteArray)] : List ByteArray)), .sl 1 (encL eS ([(⟨#[97]⟩ : ByteArray), (⟨#[98]⟩ : ByteArray), (⟨#[99]⟩ : ByteArray), (⟨#[100]⟩ : ByteArray), (⟨#[101]⟩ : ByteArray), (⟨#[102]⟩ : ByteArray), (⟨#[103]⟩ : ByteArray), (⟨#[104]⟩ : ByteArray), (⟨#[105]⟩ : ByteArray)] : List ByteArray))]) (.cons .nil (.cons .sl (.cons .sl (.cons .sl .nil)))) rfl (l := ([([] : (List ByteArray)), ([(⟨#[98]⟩ : ByteArray), (⟨#[97]⟩ : ByteArray)] : List ByteArray), ([(⟨#[97]⟩ : ByteArray), (⟨#[97]⟩ : ByteArray)] : List ByteArray), ([(⟨#[97]⟩ : ByteArray), (⟨#[98]⟩ : ByteArray), (⟨#[99]⟩ : ByteArray), (⟨#[100]⟩ : ByteArray), (⟨#[101]⟩ : ByteArray), (⟨#[102]⟩ : ByteArray), (⟨#[103]⟩ : ByteArray), (⟨#[104]⟩ : ByteArray), (⟨#[105]⟩ : ByteArray)] : List ByteArray)] : List (List ByteArray))) (f := (eL 1 eS)) rfl) rfl rfl ?_
           refine go_ ?_
           obtain ⟨y_19, hy_19, hg⟩ := bind_some hg
           refine cb_ [0] [0] [] false (w_make_Dice_Next _ _ _ hy_19) ?_
           obtain ⟨e, he, hg⟩ := bind_some hg
           refine go_ ?_
           refine ch_s (rd := [337]) rfl rfl (.loadR1 ty29 (enc_cell (eL_len _ _) (getI_at he) (o := 0) (c := .sl 1 (encL eS e)) rfl rfl)) rfl rfl ?_
           refine go_ ?_
           refine ch_n fun hU => ?_
           exact ⟨(y_19.2, (api_Certificate.mk y_7.1.Serial y_7.1.Issuer y_7.1.Subject y_7.1.Key y_7.1.KeyId y_7.1.Hash y_7.1.From y_7.1.To y_7.1.Authority y_7.1.Path e y_7.1.Seal)), hg, sub_ [(0, 0), (1, 1), (2, 137)]⟩
          ·refine awp_seq ?_
           refine awp_region (sys _ _ []) 313 329 hU rfl rfl ?_
           refine go_ ?_
           refine ch_n fun hU => ?_
           refine cg_ rfl hg (fun h32 hg => ?_) fun h32 hg => ?_
           ·refine awp_region (sys _ _ [337, 361]) 329 401 hU rfl rfl ?_
            refine go_ ?_
            refine ch_z (rd := []) rfl rfl (r_buildFull sl22 z3 (by decide) rfl rfl rfl rfl ck3 (cs := [.int .i64 (-1), .int .i64 2147483649, .int .i64 0]) (.cons .int (.cons .int (.cons .int .nil))) rfl (l := ([-1, 2147483649, 0] : List Int)) (f := eI) rfl) rfl rfl rfl ?_
            obtain ⟨y_20, hy_20, hg⟩ := bind_some hg
            refine cb_ [0] [0] [] false (w_make_Dice_Of _ _ _ hy_20) ?_
            refine go_ ?_
            refine ch_z (rd := []) rfl rfl (r_buildFull sl22 z3 (by decide) rfl rfl rfl rfl ck3 (cs := [.int .i64 4294967296, .int .i64 (-1), .int .i64 4294967295]) (.cons .int (.cons .int (.cons .int .nil))) rfl (l := ([4294967296, -1, 4294967295] : List Int)) (f := eI) rfl) rfl rfl rfl ?_
            obtain ⟨y_21, hy_21, hg⟩ := bind_some hg
            refine cb_ [0] [0] [] false (w_make_Dice_Of _ _ _ hy_21) ?_
            refine c0_ rfl rfl (.build (r := [.val (.int .i64 y_20.1), .val (.int .i64 y_21.1)]) und31 pl31 z31 (by kernel_rfl) rfl) rfl rfl ?_
            refine go_ ?_
            refine ch_n fun hU => ?_
            exact ⟨(y_21.2, (api_Certificate.mk y_7.1.Serial y_7.1.Issuer y_7.1.Subject y_7.1.Key y_7.1.KeyId y_7.1.Hash y_7.1.From y_7.1.To y_7.1.Authority y_7.1.Path y_7.1.Names (api_Seal.mk y_20.1 y_21.1))), hg, sub_ [(0, 0), (1, 1), (2, 137)]⟩
           ·refine awp_seq ?_
            refine awp_region (sys _ _ []) 329 345 hU rfl rfl ?_
            refine go_ ?_
            refine ch_n fun hU => ?_
            refine cg_ rfl hg (fun h35 hg => ?_) fun h35 hg => ?_
            ·refine awp_region (sys _ _ []) 345 385 hU rfl rfl ?_
             refine go_ ?_
             refine ch_n fun hU => ?_
             exact ⟨(y_8.2, (api_Certificate.mk y_7.1.Serial y_7.1.Issuer y_7.1.Subject y_7.1.Key y_7.1.KeyId y_7.1.Hash y_7.1.From y_7.1.To (!y_7.1.Authority) y_7.1.Path y_7.1.Names y_7.1.Seal)), hg, sub_ [(0, 0), (1, 1), (2, 137)]⟩
            ·refine awp_skip ?_
             repeat first | refine st_ ?_ | refine sn_ ?_
             exact ⟨(y_8.2, y_7.1), hg, sub_ [(0, 0), (1, 1), (2, 137)]⟩
 ·rintro ⟨b_1, c_1⟩ hg
  replace hg : g_law03_made.j1 b_1 c_1 = some r := hg
  show awp _ _ _ _ (mk _ _ _)
  unfold g_law03_made.j1 at hg
  refine sr_ 3 19 mk_U ?_
  refine go_ ?_
  refine ch_n fun hU => ?_
  refine aw_r ?_
  obtain rfl := Option.some.inj hg
  exact fin_ [(0, 0)] ⟨rfl, rfl⟩
theorem w_ref03_Element (c : api_Certificate) (r : api_Value) (hg : g_ref03_Element c = some r) : Fn Tryz.prog 12 0 [.agg (api_Certificate.dv c)] [] (fun d b => d = .agg (api_Value.dv r) ∧ b = []) := by
 unfold g_ref03_Element at hg
 refine Fn.of Tryz.func12 rfl rfl rfl fun w0 I ρ0 => ?_
 show awp _ ⟨w0, I, ρ0, 0, 0, 19⟩ _ _ _
 refine sr_ 0 16 mk_U ?_
 refine go_ ?_
 refine ch_n fun hU => ?_
 refine awp_seq ?_
 refine awp_draw (sys _ _ [80]) (by kernel_rfl) [0, 1, 3, 7, 0, 16, 48, 127, 255, 511, 0, 2047] 16 112 hU rfl rfl (by kernel_rfl) ?_
 refine go_ ?_
 obtain ⟨y, hy, hg⟩ := bind_some hg
 refine ca_ (w_ref01_Int _ _ hy) ?_
 refine go_ ?_
 obtain ⟨y_2, hy_2, hg⟩ := bind_some hg
 refine ca_ (w_ref01_Int _ _ hy_2) ?_
 refine ch_z (rd := []) rfl rfl (r_buildFull sl39 z41 (by decide) rfl rfl rfl rfl ck41 (cs := [.int .i64 y.Tag, .sl 1 (encL e8 y.Bytes), .bool y.Nested, .sl 4 (encL api_Value.enc y.Elements), .int .i64 y_2.Tag, .sl 1 (encL e8 y_2.Bytes), .bool y_2.Nested, .sl 4 (encL api_Value.enc y_2.Elements)]) (.cons .int (.cons .sl (.cons .bool (.cons .sl (.cons .int (.cons .sl (.cons .bool (.cons .sl .nil)))))))) rfl (l := ([y, y_2] : List api_Value)) (f := api_Value.enc) (by simp only [encL, List.flatMap_cons, List.flatMap_nil, api_Value.enc_eq]; rfl)) rfl rfl rfl ?_
 obtain ⟨y_3, hy_3, hg⟩ := bind_some hg
 refine ca_ (w_ref01_List _ _ hy_3) ?_
 refine go_ ?_
 refine ch_n fun hU => ?_
 refine awp_seq ?_
 refine awp_draw (sys _ _ [136]) (by kernel_rfl) [0, 1, 0, 7, 15, 31] 112 160 hU rfl rfl (by kernel_rfl) ?_
 refine go_ ?_
 obtain ⟨y_4, hy_4, hg⟩ := bind_some hg
 refine ca_ (w_ref03_body _ _ hy_4) ?_
 refine go_ ?_
 refine ch_z (rd := []) rfl rfl (r_buildFull sl39 z41 (by decide) rfl rfl rfl rfl ck41 (cs := [.int .i64 y_4.Tag, .sl 1 (encL e8 y_4.Bytes), .bool y_4.Nested, .sl 4 (encL api_Value.enc y_4.Elements), .int .i64 y_3.Tag, .sl 1 (encL e8 y_3.Bytes), .bool y_3.Nested, .sl 4 (encL api_Value.enc y_3.Elements)]) (.cons .int (.cons .sl (.cons .bool (.cons .sl (.cons .int (.cons .sl (.cons .bool (.cons .sl .nil)))))))) rfl (l := ([y_4, y_3] : List api_Value)) (f := api_Value.enc) (by simp only [encL, List.flatMap_cons, List.flatMap_nil, api_Value.enc_eq]; rfl)) rfl rfl rfl ?_
 obtain ⟨y_5, hy_5, hg⟩ := bind_some hg
 refine ca_ (w_ref01_List _ _ hy_5) ?_
 refine go_ ?_
 refine ch_n fun hU => ?_
 refine aw_r ?_
 obtain rfl := Option.some.inj hg
 exact fin_ [] ⟨rfl, rfl⟩
theorem w_ref03_Encode_own (c : api_Certificate) (r : (List UInt8) × Int) (hg : g_ref03_Encode c = some r) : Fn Tryz.prog 11 0 [.agg (api_Certificate.dv c)] [] (fun d b => d = .tup [.row 0, .val (.int .i64 r.2)] ∧ b = [.row 5 1 (encL e8 r.1)]) := by
 unfold g_ref03_Encode at hg
 refine Fn.of Tryz.func11 rfl rfl rfl fun w0 I ρ0 => ?_
 show awp _ ⟨w0, I, ρ0, 0, 0, 12⟩ _ _ _
 refine sr_ 0 24 mk_U ?_
 refine go_ ?_
 refine ch_n fun hU => ?_
 refine awp_seq ?_
 refine sr_ 24 48 hU ?_
 refine go_ ?_
 obtain ⟨y, hy, hg⟩ := bind_some hg
 refine ca_ (w_ref03_Check _ _ hy) ?_
 refine go_ ?_
 refine ch_n fun hU => ?_
 refine cg_ rfl hg (fun h3 hg => ?_) fun h3 hg => ?_
 ·refine awp_seq ?_
  refine awp_region (sys _ _ []) 48 64 hU rfl rfl ?_
  refine go_ ?_
  refine ch_n fun hU => ?_
  refine aw_r ?_
  obtain rfl := Option.some.inj hg
  exact fin_ [] ⟨rfl, rfl⟩
 ·refine awp_skip ?_
  repeat first | refine st_ ?_ | refine sn_ ?_
  refine sr_ 48 104 hU ?_
  refine go_ ?_
  obtain ⟨y_2, hy_2, hg⟩ := bind_some hg
  refine ca_ (w_ref03_Element _ _ hy_2) ?_
  obtain ⟨y_3, hy_3, hg⟩ := bind_some hg
  refine ch_call (rd := []) (ps := []) (gs := []) false rfl (w_ref01_Encode_own _ _ hy_3) rfl rfl (.cons (.agg (.cons .val (.cons .sl (.cons .val (.cons .sl .nil))))) .nil) rfl rfl (by intro h; cases h) rfl (by intro h; first | (cases h; done) | exact ⟨_, _, ⟨rfl, rfl⟩, by simp, by simp⟩) ?_
  rintro _ _ ⟨rfl, rfl⟩
  refine go_ ?_
  refine ch_n fun hU => ?_
  refine aw_r ?_
  obtain rfl := Option.some.inj hg
  exact fin_ [(0, 64)] ⟨rfl, rfl⟩
theorem w_certificate_Check (c : api_Certificate) (r : Int) (hg : g_certificate_Check c = some r) : Fn Tryz.prog 32 0 [.agg (api_Certificate.dv c)] [] (fun d b => d = .val (.int .i64 r) ∧ b = []) := by
 unfold g_certificate_Check at hg
 refine Fn.of Tryz.func32 rfl rfl rfl fun w0 I ρ0 => ?_
 show awp _ ⟨w0, I, ρ0, 0, 0, 6⟩ _ _ _
 refine sr_ 0 16 mk_U ?_
 refine go_ ?_
 refine ch_n fun hU => ?_
 refine awp_seq ?_
 refine sr_ 16 40 hU ?_
 refine go_ ?_
 obtain ⟨y, hy, hg⟩ := bind_some hg
 refine ca_ (w_certificate_valid _ _ hy) ?_
 refine go_ ?_
 refine ch_n fun hU => ?_
 refine cg_ rfl hg (fun h3 hg => ?_) fun h3 hg => ?_
 ·refine awp_seq ?_
  refine awp_region (sys _ _ []) 40 48 hU rfl rfl ?_
  refine go_ ?_
  refine ch_n fun hU => ?_
  refine aw_r ?_
  obtain rfl := Option.some.inj hg
  exact fin_ [] ⟨rfl, rfl⟩
 ·refine awp_skip ?_
  repeat first | refine st_ ?_ | refine sn_ ?_
  refine sr_ 40 48 hU ?_
  refine go_ ?_
  refine ch_n fun hU => ?_
  refine aw_r ?_
  obtain rfl := Option.some.inj hg
  exact fin_ [] ⟨rfl, rfl⟩
theorem w_ref02_SameTexts (a : (List ByteArray)) (b : (List ByteArray)) (r : Bool) (hg : g_ref02_SameTexts a b = some r) : Fn Tryz.prog 45 0 [.sl 1 (encL eS a), .sl 1 (encL eS b)] [] (fun d b => d = .val (.bool r) ∧ b = []) := by
 unfold g_ref02_SameTexts at hg
 refine Fn.of Tryz.func45 rfl rfl rfl fun w0 I ρ0 => ?_
 show awp _ ⟨w0, I, ρ0, 0, 0, 26⟩ _ _ _
 refine sr_ 0 8 mk_U ?_
 refine go_ ?_
 refine ch_n fun hU => ?_
 refine awp_seq ?_
 refine sr_ 8 48 hU ?_
 refine go_ ?_
 refine ch_n fun hU => ?_
 refine cg_ rfl hg (fun h3 hg => ?_) fun h3 hg => ?_
 ·refine awp_seq ?_
  refine awp_region (sys _ _ []) 48 56 hU rfl rfl ?_
  refine go_ ?_
  refine ch_n fun hU => ?_
  refine aw_r ?_
  obtain rfl := Option.some.inj hg
  exact fin_ [] ⟨rfl, rfl⟩
 ·refine awp_skip ?_
  repeat first | refine st_ ?_ | refine sn_ ?_
  refine awp_seq ?_
  refine sr_ 48 56 hU ?_
  refine go_ ?_
  refine ch_n fun hU => ?_
  refine awp_block ?_
  refine lp_ (fun (i_1 : Int) => mk [(0, .sl 1 (encL eS a)), (1, .sl 1 (encL eS b)), (5, .val (.int .i64 i_1))] [] 0) hg (sub_ []) ?_
  rintro i_1 m1 o1 hg hn1
  replace hg : g_ref02_SameTexts.l1 a b i_1 = some o1 := hg
  show awp _ _ _ _ (mk _ _ _)
  unfold g_ref02_SameTexts.l1 at hg
  refine awp_seq ?_
  refine sr_ 0 32 mk_U ?_
  refine go_ ?_
  refine ch_n fun hU => ?_
  refine cg_ rfl hg (fun h7 hg => ?_) fun h7 hg => ?_
  ·refine awp_skip ?_
   repeat first | refine st_ ?_ | refine sn_ ?_
   refine awp_seq ?_
   refine awp_block ?_
   refine awp_seq ?_
   refine awp_draw (sys _ _ []) (by kernel_rfl) [0, 0, 3, 7, 0, 0, 48, 112, 255] 32 104 hU rfl rfl (by kernel_rfl) ?_
   refine go_ ?_
   obtain ⟨e, he, hg⟩ := bind_some hg
   refine go_ ?_
   refine c0_ rfl rfl (r_loadE1 ty9 (enc_cell eS_len (getI_at he) (o := 0) (c := .str e) rfl rfl)) rfl rfl ?_
   refine go_ ?_
   obtain ⟨e_2, he_2, hg⟩ := bind_some hg
   refine go_ ?_
   refine c0_ rfl rfl (r_loadE1 ty9 (enc_cell eS_len (getI_at he_2) (o := 0) (c := .str e_2) rfl rfl)) rfl rfl ?_
   refine go_ ?_
   refine ch_n fun hU => ?_
   refine cg_ rfl hg (fun h9 hg => ?_) fun h9 hg => ?_
   ·refine awp_seq ?_
    refine awp_region (sys _ _ []) 104 112 hU rfl rfl ?_
    refine go_ ?_
    refine ch_n fun hU => ?_
    refine aw_r ?_
    replace hg := leave hg hn1
    obtain rfl := Option.some.inj hg
    exact fin_ [] ⟨rfl, rfl⟩
   ·refine awp_skip ?_
    repeat first | refine st_ ?_ | refine sn_ ?_
    refine awp_region (sys _ _ []) 104 128 hU rfl rfl ?_
    refine go_ ?_
    refine ch_n fun hU => ?_
    obtain rfl := Option.some.inj hg
    exact ⟨(W (i_1 + 1), m1), Nat.lt_succ_self _, hn1, sub_ []⟩
  ·refine awp_exit ?_
   repeat first | refine st_ ?_ | refine sn_ ?_
   replace hg := leave hg hn1
   refine sr_ 32 40 hU ?_
   refine go_ ?_
   refine ch_n fun hU => ?_
   refine aw_r ?_
   obtain rfl := Option.some.inj hg
   exact fin_ [] ⟨rfl, rfl⟩
theorem w_ref03_Same (a : api_Certificate) (b : api_Certificate) (r : Bool) (hg : g_ref03_Same a b = some r) : Fn Tryz.prog 17 0 [.agg (api_Certificate.dv a), .agg (api_Certificate.dv b)] [] (fun d b => d = .val (.bool r) ∧ b = []) := by
 unfold g_ref03_Same at hg
 refine Fn.of Tryz.func17 rfl rfl rfl fun w0 I ρ0 => ?_
 show awp _ ⟨w0, I, ρ0, 0, 0, 87⟩ _ _ _
 refine sr_ 0 24 mk_U ?_
 refine go_ ?_
 refine ch_n fun hU => ?_
 refine sr_ 24 688 hU ?_
 refine go_ ?_
 rcases bc_ hg with ⟨h2, hg⟩ | ⟨h2, hg⟩
 ·refine go_ ?_
  rcases bc_ hg with ⟨h3, hg⟩ | ⟨h3, hg⟩
  ·refine go_ ?_
   rcases bc_ hg with ⟨h4, hg⟩ | ⟨h4, hg⟩
   ·refine go_ ?_
    refine c0_ (gdv_t rfl rfl h4) rfl (steq28_eql a.Key b.Key) rfl rfl ?_
    refine go_ ?_
    rcases bc_ hg with ⟨h5, hg⟩ | ⟨h5, hg⟩
    ·refine go_ ?_
     rcases bc_ hg with ⟨h6, hg⟩ | ⟨h6, hg⟩
     ·refine go_ ?_
      refine c0_ (gdv_t rfl rfl h6) rfl (steq28_eql a.Hash b.Hash) rfl rfl ?_
      refine go_ ?_
      rcases bc_ hg with ⟨h7, hg⟩ | ⟨h7, hg⟩
      ·refine go_ ?_
       rcases bc_ hg with ⟨h8, hg⟩ | ⟨h8, hg⟩
       ·refine go_ ?_
        rcases bc_ hg with ⟨h9, hg⟩ | ⟨h9, hg⟩
        ·refine go_ ?_
         refine c0_ (gdv_t rfl rfl h9) rfl (r_beql und4) rfl rfl ?_
         refine go_ ?_
         rcases bc_ hg with ⟨h10, hg⟩ | ⟨h10, hg⟩
         ·refine go_ ?_
          rcases bc_ hg with ⟨h11, hg⟩ | ⟨h11, hg⟩
          ·refine go_ ?_
           obtain ⟨y, hy, hg⟩ := bind_some hg
           refine ca_ (w_ref02_SameTexts _ _ _ hy) ?_
           refine go_ ?_
           rcases bc_ hg with ⟨h12, hg⟩ | ⟨h12, hg⟩
           ·refine go_ ?_
            refine c0_ (gdv_t rfl rfl h12) rfl (steq31_eql a.Seal b.Seal) rfl rfl ?_
            refine go_ ?_
            refine ch_n fun hU => ?_
            refine aw_r ?_
            obtain rfl := Option.some.inj hg
            exact fin_ [] ⟨rfl, rfl⟩
           ·refine go_ ?_
            refine ch_n fun hU => ?_
            refine aw_r ?_
            obtain rfl := Option.some.inj hg
            exact fin_ [] ⟨rfl, rfl⟩
          ·refine go_ ?_
           refine ch_n fun hU => ?_
           refine aw_r ?_
           obtain rfl := Option.some.inj hg
           exact fin_ [] ⟨rfl, rfl⟩
         ·refine go_ ?_
          refine ch_n fun hU => ?_
          refine aw_r ?_
          obtain rfl := Option.some.inj hg
          exact fin_ [] ⟨rfl, rfl⟩
        ·refine go_ ?_
         refine ch_n fun hU => ?_
         refine aw_r ?_
         obtain rfl := Option.some.inj hg
         exact fin_ [] ⟨rfl, rfl⟩
       ·refine go_ ?_
        refine ch_n fun hU => ?_
        refine aw_r ?_
        obtain rfl := Option.some.inj hg
        exact fin_ [] ⟨rfl, rfl⟩
      ·refine go_ ?_
       refine ch_n fun hU => ?_
       refine aw_r ?_
       obtain rfl := Option.some.inj hg
       exact fin_ [] ⟨rfl, rfl⟩
     ·refine go_ ?_
      refine ch_n fun hU => ?_
      refine aw_r ?_
      obtain rfl := Option.some.inj hg
      exact fin_ [] ⟨rfl, rfl⟩
    ·refine go_ ?_
     refine ch_n fun hU => ?_
     refine aw_r ?_
     obtain rfl := Option.some.inj hg
     exact fin_ [] ⟨rfl, rfl⟩
   ·refine go_ ?_
    refine ch_n fun hU => ?_
    refine aw_r ?_
    obtain rfl := Option.some.inj hg
    exact fin_ [] ⟨rfl, rfl⟩
  ·refine go_ ?_
   refine ch_n fun hU => ?_
   refine aw_r ?_
   obtain rfl := Option.some.inj hg
   exact fin_ [] ⟨rfl, rfl⟩
 ·refine go_ ?_
  refine ch_n fun hU => ?_
  refine aw_r ?_
  obtain rfl := Option.some.inj hg
  exact fin_ [] ⟨rfl, rfl⟩
theorem w_ref03_Sealed (c : api_Certificate) (key : Int) (r : Bool) (hg : g_ref03_Sealed c key = some r) : Fn Tryz.prog 50 0 [.agg (api_Certificate.dv c), .val (.int .i64 key)] [] (fun d b => d = .val (.bool r) ∧ b = []) := by
 unfold g_ref03_Sealed at hg
 refine Fn.of Tryz.func50 rfl rfl rfl fun w0 I ρ0 => ?_
 show awp _ ⟨w0, I, ρ0, 0, 0, 29⟩ _ _ _
 refine sr_ 0 16 mk_U ?_
 refine go_ ?_
 refine ch_n fun hU => ?_
 refine sr_ 16 72 hU ?_
 refine go_ ?_
 obtain ⟨y, hy, hg⟩ := bind_some hg
 refine ca_ (w_ref03_Bytes _ _ hy) ?_
 refine go_ ?_
 refine ch_n fun hU => ?_
 refine awp_seq ?_
 refine awp_draw (sys _ _ []) (by kernel_rfl) [0, 1, 3, 7, 15, 31, 7, 127, 255, 511, 1023, 2047, 4095, 1023, 9215, 32767, 65535, 131071] 72 216 hU rfl rfl (by kernel_rfl) ?_
 refine go_ ?_
 rcases bc_ hg with ⟨h3, hg⟩ | ⟨h3, hg⟩
 ·refine go_ ?_
  rcases bc_ hg with ⟨h4, hg⟩ | ⟨h4, hg⟩
  ·refine go_ ?_
   obtain ⟨y_2, hy_2, hg⟩ := bind_some hg
   refine ca_ (w_ref03_Sum _ _ hy_2) ?_
   refine go_ ?_
   refine ch_n fun hU => ?_
   refine aw_r ?_
   obtain rfl := Option.some.inj hg
   exact fin_ [] ⟨rfl, rfl⟩
  ·refine go_ ?_
   refine ch_n fun hU => ?_
   refine aw_r ?_
   obtain rfl := Option.some.inj hg
   exact fin_ [] ⟨rfl, rfl⟩
 ·refine go_ ?_
  refine ch_n fun hU => ?_
  refine aw_r ?_
  obtain rfl := Option.some.inj hg
  exact fin_ [] ⟨rfl, rfl⟩
theorem w_law03_agree (c : api_Certificate) (key : Int) (r : Bool) (hg : g_law03_agree c key = some r) : Fn Tryz.prog 24 0 [.agg (api_Certificate.dv c), .val (.int .i64 key)] [] (fun d b => d = .val (.bool r) ∧ b = []) := by
 unfold g_law03_agree at hg
 refine Fn.of Tryz.func24 rfl rfl rfl fun w0 I ρ0 => ?_
 show awp _ ⟨w0, I, ρ0, 0, 0, 110⟩ _ _ _
 refine sr_ 0 16 mk_U ?_
 refine go_ ?_
 refine ch_n fun hU => ?_
 refine sr_ 16 72 hU ?_
 refine go_ ?_
 obtain ⟨y, hy, hg⟩ := bind_some hg
 refine ca_ (w_certificate_Bytes _ _ hy) ?_
 refine go_ ?_
 refine ch_n fun hU => ?_
 refine sr_ 72 128 hU ?_
 refine go_ ?_
 obtain ⟨y_2, hy_2, hg⟩ := bind_some hg
 refine ca_ (w_ref03_Bytes _ _ hy_2) ?_
 refine go_ ?_
 refine ch_n fun hU => ?_
 refine sr_ 128 184 hU ?_
 refine go_ ?_
 obtain ⟨y_3, hy_3, hg⟩ := bind_some hg
 refine ca_ (w_certificate_Encode _ _ hy_3) ?_
 refine go_ ?_
 refine ch_n fun hU => ?_
 refine sr_ 184 240 hU ?_
 refine go_ ?_
 obtain ⟨y_4, hy_4, hg⟩ := bind_some hg
 refine ch_call (rd := []) (ps := []) (gs := []) false rfl (w_ref03_Encode_own _ _ hy_4) rfl rfl (.cons (.agg (.cons .val (.cons .val (.cons .val (.cons .val (.cons .val (.cons .val (.cons .val (.cons .val (.cons .val (.cons .val (.cons .val (.cons .val (.cons .sl (.cons .val (.cons .val .nil)))))))))))))))) .nil) rfl rfl (by intro h; cases h) rfl (by intro h; first | (cases h; done) | exact ⟨_, _, ⟨rfl, rfl⟩, by simp, by simp⟩) ?_
 rintro _ _ ⟨rfl, rfl⟩
 refine go_ ?_
 refine ch_n fun hU => ?_
 refine sr_ 240 312 hU ?_
 refine go_ ?_
 obtain ⟨y_5, hy_5, hg⟩ := bind_some hg
 refine ca_ (w_certificate_Sign _ _ _ hy_5) ?_
 refine go_ ?_
 refine ch_n fun hU => ?_
 refine sr_ 312 384 hU ?_
 refine go_ ?_
 obtain ⟨y_6, hy_6, hg⟩ := bind_some hg
 refine ca_ (w_ref03_Sign _ _ _ hy_6) ?_
 refine go_ ?_
 refine ch_n fun hU => ?_
 refine awp_seq ?_
 refine awp_draw (sys _ _ []) (by kernel_rfl) [0, 1, 0, 7, 15, 31, 63, 63, 255, 511, 1023, 2047, 4095, 2047, 10239, 32767, 65535, 131071, 262143, 262143, 1048575, 2097151, 4194303, 8388607, 16777215, 8388607, 41943039, 134217727, 268435455, 536870911, 1073741823, 1073741823, 4294967295, 8589934591, 17179869183, 34359738367, 34359738367, 137438953471, 274877906943, 549755813887, 1099511627775, 1099511627775, 4398046511103, 1099511627775, 1099511627775, 35184372088831, 70368744177663, 140737488355327, 281474976710655, 562949953421311, 562949953421311, 1688849860263935, 3940649673949183, 9007199254740991, 562949953421311, 562949953421311, 36591746972385279, 108649341010313215, 288230376151711743, 576460752303423487, 1152921504606846975, 2305843009213693951] 384 880 hU rfl rfl (by kernel_rfl) ?_
 refine go_ ?_
 obtain ⟨y_7, hy_7, hg⟩ := bind_some hg
 refine ca_ (w_certificate_Check _ _ hy_7) ?_
 refine go_ ?_
 obtain ⟨y_8, hy_8, hg⟩ := bind_some hg
 refine ca_ (w_ref03_Check _ _ hy_8) ?_
 refine go_ ?_
 rcases bc_ hg with ⟨h8, hg⟩ | ⟨h8, hg⟩
 ·refine go_ ?_
  rcases bc_ hg with ⟨h9, hg⟩ | ⟨h9, hg⟩
  ·refine go_ ?_
   refine c0_ (gdv_t rfl rfl h9) rfl (r_convS und35 und5 und9 .sl rfl) rfl rfl ?_
   refine go_ ?_
   refine c0_ (gdv_t rfl rfl h9) rfl (r_convS und35 und5 und9 .sl rfl) rfl rfl ?_
   refine go_ ?_
   rcases bc_ hg with ⟨h10, hg⟩ | ⟨h10, hg⟩
   ·refine go_ ?_
    rcases bc_ hg with ⟨h11, hg⟩ | ⟨h11, hg⟩
    ·refine go_ ?_
     refine c0_ (gdv_t rfl rfl h11) rfl (r_convS und35 und5 und9 .sl rfl) rfl rfl ?_
     refine go_ ?_
     refine ch_s (rd := [192]) (gdv_t rfl rfl h11) rfl (r_convS und35 und5 und9 .row rfl) rfl rfl ?_
     refine go_ ?_
     rcases bc_ hg with ⟨h12, hg⟩ | ⟨h12, hg⟩
     ·refine go_ ?_
      rcases bc_ hg with ⟨h13, hg⟩ | ⟨h13, hg⟩
      ·refine go_ ?_
       obtain ⟨y_9, hy_9, hg⟩ := bind_some hg
       refine ca_ (w_ref03_Same _ _ _ hy_9) ?_
       refine go_ ?_
       rcases bc_ hg with ⟨h14, hg⟩ | ⟨h14, hg⟩
       ·refine go_ ?_
        obtain ⟨y_10, hy_10, hg⟩ := bind_some hg
        refine ca_ (w_certificate_Sealed _ _ _ hy_10) ?_
        refine go_ ?_
        obtain ⟨y_11, hy_11, hg⟩ := bind_some hg
        refine ca_ (w_ref03_Sealed _ _ _ hy_11) ?_
        refine c0_ (gdv_t rfl rfl h14) rfl (r_beql und4) rfl rfl ?_
        refine go_ ?_
        rcases bc_ hg with ⟨h15, hg⟩ | ⟨h15, hg⟩
        ·refine go_ ?_
         obtain ⟨y_12, hy_12, hg⟩ := bind_some hg
         refine ca_ (w_certificate_Sealed _ _ _ hy_12) ?_
         refine go_ ?_
         obtain ⟨y_13, hy_13, hg⟩ := bind_some hg
         refine ca_ (w_ref03_Sealed _ _ _ hy_13) ?_
         refine c0_ (gdv_t rfl rfl h15) rfl (r_beql und4) rfl rfl ?_
         refine go_ ?_
         refine ch_n fun hU => ?_
         refine aw_r ?_
         obtain rfl := Option.some.inj hg
         exact fin_ [] ⟨rfl, rfl⟩
        ·refine go_ ?_
         refine ch_n fun hU => ?_
         refine aw_r ?_
         obtain rfl := Option.some.inj hg
         exact fin_ [] ⟨rfl, rfl⟩
       ·refine go_ ?_
        refine ch_n fun hU => ?_
        refine aw_r ?_
        obtain rfl := Option.some.inj hg
        exact fin_ [] ⟨rfl, rfl⟩
      ·refine go_ ?_
       refine ch_n fun hU => ?_
       refine aw_r ?_
       obtain rfl := Option.some.inj hg
       exact fin_ [] ⟨rfl, rfl⟩
     ·refine go_ ?_
      refine ch_n fun hU => ?_
      refine aw_r ?_
      obtain rfl := Option.some.inj hg
      exact fin_ [] ⟨rfl, rfl⟩
    ·refine go_ ?_
     refine ch_n fun hU => ?_
     refine aw_r ?_
     obtain rfl := Option.some.inj hg
     exact fin_ [] ⟨rfl, rfl⟩
   ·refine go_ ?_
    refine ch_n fun hU => ?_
    refine aw_r ?_
    obtain rfl := Option.some.inj hg
    exact fin_ [] ⟨rfl, rfl⟩
  ·refine go_ ?_
   refine ch_n fun hU => ?_
   refine aw_r ?_
   obtain rfl := Option.some.inj hg
   exact fin_ [] ⟨rfl, rfl⟩
 ·refine go_ ?_
  refine ch_n fun hU => ?_
  refine aw_r ?_
  obtain rfl := Option.some.inj hg
  exact fin_ [] ⟨rfl, rfl⟩
end Go.Proofs.YtlcfdnjokgbccaaGreat
