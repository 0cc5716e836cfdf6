/- The program computes the plain functions. -/
import Derived.Test.YtmihjbejflcgkaaT1
import Derived.Test.YtmihjbejflcgkaaA1
import Derived.Test.YtmihjbejflcgkaaA3
import Derived.Test.YtmihjbejflcgkaaA4
set_option linter.unusedVariables false
set_option linter.unusedSimpArgs false
set_option maxRecDepth 100000
set_option maxHeartbeats 1600000
namespace Go.Proofs.Ytmihjbejflcgkaa
open Go.RowKit
theorem w_make_size (d : cipherplanmake_Dice) (a : Int) (r : Int × cipherplanmake_Dice) (hg : g_make_size d a = some r) : Fn Try.prog 31 1 [.ptr 0 0, .val (.int .i64 a)] [.box [.sl 1 (encL eI d.L), .val (.int .i64 d.At)] 61] (fun d' b' => d' = .val (.int .i64 r.1) ∧ b' = [.box [.sl 1 (encL eI r.2.L), .val (.int .i64 r.2.At)] 61]) := by
 unfold g_make_size at hg
 refine Fn.of Try.func31 rfl rfl rfl fun w0 I ρ0 => ?_
 show awp _ ⟨w0, I, ρ0, 1, 1, 46⟩ _ _ _
 refine sr_ 1 9 mk_U ?_
 refine go_ ?_
 refine ch_n fun hU => ?_
 refine awp_seq ?_
 refine sr_ 9 17 hU ?_
 refine go_ ?_
 refine ch_n fun hU => ?_
 refine awp_block ?_
 refine awp_cut (ι := Bool) (fun (x6_1 : Bool) => mk [(0, .ptr 0 0), (5, .val (.int .i64 a)), (6, .val (.bool x6_1))] [(0, .box [.sl 1 (encL eI d.L), .val (.int .i64 d.At)] 61)] 1) (fun (x6_1 : Bool) => g_make_size.j1 d a x6_1 = some r) ?_ ?_
 ·refine awp_seq ?_
  refine awp_region (sys _ _ []) 17 33 hU rfl rfl ?_
  refine go_ ?_
  refine ch_n fun hU => ?_
  refine cg_ rfl hg (fun h4 hg => ?_) fun h4 hg => ?_
  ·refine awp_skip ?_
   repeat first | refine st_ ?_ | refine sn_ ?_
   exact ⟨decide (a = 5), hg, sub_ [(0, 0)]⟩
  ·refine awp_seq ?_
   refine awp_region (sys _ _ []) 33 49 hU rfl rfl ?_
   refine go_ ?_
   refine ch_n fun hU => ?_
   refine cg_ rfl hg (fun h6 hg => ?_) fun h6 hg => ?_
   ·refine awp_skip ?_
    repeat first | refine st_ ?_ | refine sn_ ?_
    exact ⟨decide (a = 6), hg, sub_ [(0, 0)]⟩
   ·refine awp_seq ?_
    refine awp_region (sys _ _ []) 49 65 hU rfl rfl ?_
    refine go_ ?_
    refine ch_n fun hU => ?_
    refine cg_ rfl hg (fun h8 hg => ?_) fun h8 hg => ?_
    ·refine awp_skip ?_
     repeat first | refine st_ ?_ | refine sn_ ?_
     exact ⟨decide (a = 10), hg, sub_ [(0, 0)]⟩
    ·refine awp_region (sys _ _ []) 65 81 hU rfl rfl ?_
     refine go_ ?_
     refine ch_n fun hU => ?_
     exact ⟨decide (a = 11), hg, sub_ [(0, 0)]⟩
 ·rintro x6_1 hg
  replace hg : g_make_size.j1 d a x6_1 = some r := hg
  show awp _ _ _ _ (mk _ _ _)
  unfold g_make_size.j1 at hg
  refine cg_ rfl hg (fun h10 hg => ?_) fun h10 hg => ?_
  ·refine awp_seq ?_
   refine awp_region (sys _ _ [9]) 1 33 mk_U rfl rfl ?_
   refine go_ ?_
   refine ch_z (rd := []) rfl rfl (r_buildFull sl22 z3 (by decide) rfl rfl rfl rfl ck3 (cs := [.int .i64 2048, .int .i64 1024, .int .i64 512, .int .i64 3072, .int .i64 1023, .int .i64 4096, .int .i64 16384]) (.cons .int (.cons .int (.cons .int (.cons .int (.cons .int (.cons .int (.cons .int .nil))))))) rfl (l := ([2048, 1024, 512, 3072, 1023, 4096, 16384] : List Int)) (f := eI) rfl) rfl rfl rfl ?_
   obtain ⟨y, hy, hg⟩ := bind_some hg
   refine cb_ [0] [0] [] false (w_make_Dice_Of _ _ _ hy) ?_
   refine go_ ?_
   refine ch_n fun hU => ?_
   refine aw_r ?_
   obtain rfl := Option.some.inj hg
   exact fin_ [(0, 0)] ⟨rfl, rfl⟩
  ·refine awp_cut (ι := Bool) (fun (x14_2 : Bool) => mk [(0, .ptr 0 0), (5, .val (.int .i64 a)), (14, .val (.bool x14_2))] [(0, .box [.sl 1 (encL eI d.L), .val (.int .i64 d.At)] 61)] 1) (fun (x14_2 : Bool) => g_make_size.j2 d a x14_2 = some r) ?_ ?_
   ·refine awp_seq ?_
    refine awp_region (sys _ _ []) 1 17 mk_U rfl rfl ?_
    refine go_ ?_
    refine ch_n fun hU => ?_
    refine cg_ rfl hg (fun h13 hg => ?_) fun h13 hg => ?_
    ·refine awp_skip ?_
     repeat first | refine st_ ?_ | refine sn_ ?_
     exact ⟨decide (a = 7), hg, sub_ [(0, 0)]⟩
    ·refine awp_region (sys _ _ []) 17 33 hU rfl rfl ?_
     refine go_ ?_
     refine ch_n fun hU => ?_
     exact ⟨decide (a = 12), hg, sub_ [(0, 0)]⟩
   ·rintro x14_2 hg
    replace hg : g_make_size.j2 d a x14_2 = some r := hg
    show awp _ _ _ _ (mk _ _ _)
    unfold g_make_size.j2 at hg
    refine cg_ rfl hg (fun h15 hg => ?_) fun h15 hg => ?_
    ·refine awp_seq ?_
     refine awp_region (sys _ _ [9]) 1 33 mk_U rfl rfl ?_
     refine go_ ?_
     refine ch_z (rd := []) rfl rfl (r_buildFull sl22 z3 (by decide) rfl rfl rfl rfl ck3 (cs := [.int .i64 256, .int .i64 160, .int .i64 224, .int .i64 384, .int .i64 521]) (.cons .int (.cons .int (.cons .int (.cons .int (.cons .int .nil))))) rfl (l := ([256, 160, 224, 384, 521] : List Int)) (f := eI) rfl) rfl rfl rfl ?_
     obtain ⟨y_2, hy_2, hg⟩ := bind_some hg
     refine cb_ [0] [0] [] false (w_make_Dice_Of _ _ _ hy_2) ?_
     refine go_ ?_
     refine ch_n fun hU => ?_
     refine aw_r ?_
     obtain rfl := Option.some.inj hg
     exact fin_ [(0, 0)] ⟨rfl, rfl⟩
    ·refine awp_seq ?_
     refine awp_region (sys _ _ []) 1 17 mk_U rfl rfl ?_
     refine go_ ?_
     refine ch_n fun hU => ?_
     refine cg_ rfl hg (fun h18 hg => ?_) fun h18 hg => ?_
     ·refine awp_seq ?_
      refine awp_region (sys _ _ [25]) 17 49 hU rfl rfl ?_
      refine go_ ?_
      refine ch_z (rd := []) rfl rfl (r_buildFull sl22 z3 (by decide) rfl rfl rfl rfl ck3 (cs := [.int .i64 65, .int .i64 44, .int .i64 87]) (.cons .int (.cons .int (.cons .int .nil))) rfl (l := ([65, 44, 87] : List Int)) (f := eI) rfl) rfl rfl rfl ?_
      obtain ⟨y_3, hy_3, hg⟩ := bind_some hg
      refine cb_ [0] [0] [] false (w_make_Dice_Of _ _ _ hy_3) ?_
      refine go_ ?_
      refine ch_n fun hU => ?_
      refine aw_r ?_
      obtain rfl := Option.some.inj hg
      exact fin_ [(0, 0)] ⟨rfl, rfl⟩
     ·refine awp_seq ?_
      refine awp_region (sys _ _ []) 17 33 hU rfl rfl ?_
      refine go_ ?_
      refine ch_n fun hU => ?_
      refine cg_ rfl hg (fun h21 hg => ?_) fun h21 hg => ?_
      ·refine awp_seq ?_
       refine awp_region (sys _ _ [41]) 33 65 hU rfl rfl ?_
       refine go_ ?_
       refine ch_z (rd := []) rfl rfl (r_buildFull sl22 z3 (by decide) rfl rfl rfl rfl ck3 (cs := [.int .i64 768, .int .i64 512, .int .i64 1024]) (.cons .int (.cons .int (.cons .int .nil))) rfl (l := ([768, 512, 1024] : List Int)) (f := eI) rfl) rfl rfl rfl ?_
       obtain ⟨y_4, hy_4, hg⟩ := bind_some hg
       refine cb_ [0] [0] [] false (w_make_Dice_Of _ _ _ hy_4) ?_
       refine go_ ?_
       refine ch_n fun hU => ?_
       refine aw_r ?_
       obtain rfl := Option.some.inj hg
       exact fin_ [(0, 0)] ⟨rfl, rfl⟩
      ·refine awp_seq ?_
       refine awp_region (sys _ _ []) 33 49 hU rfl rfl ?_
       refine go_ ?_
       refine ch_n fun hU => ?_
       refine cg_ rfl hg (fun h24 hg => ?_) fun h24 hg => ?_
       ·refine awp_seq ?_
        refine awp_region (sys _ _ [57]) 49 81 hU rfl rfl ?_
        refine go_ ?_
        refine ch_z (rd := []) rfl rfl (r_buildFull sl22 z3 (by decide) rfl rfl rfl rfl ck3 (cs := [.int .i64 128, .int .i64 40]) (.cons .int (.cons .int .nil)) rfl (l := ([128, 40] : List Int)) (f := eI) rfl) rfl rfl rfl ?_
        obtain ⟨y_5, hy_5, hg⟩ := bind_some hg
        refine cb_ [0] [0] [] false (w_make_Dice_Of _ _ _ hy_5) ?_
        refine go_ ?_
        refine ch_n fun hU => ?_
        refine aw_r ?_
        obtain rfl := Option.some.inj hg
        exact fin_ [(0, 0)] ⟨rfl, rfl⟩
       ·refine awp_seq ?_
        refine awp_region (sys _ _ []) 49 65 hU rfl rfl ?_
        refine go_ ?_
        refine ch_n fun hU => ?_
        refine cg_ rfl hg (fun h27 hg => ?_) fun h27 hg => ?_
        ·refine awp_seq ?_
         refine awp_region (sys _ _ [73]) 65 97 hU rfl rfl ?_
         refine go_ ?_
         refine ch_z (rd := []) rfl rfl (r_buildFull sl22 z3 (by decide) rfl rfl rfl rfl ck3 (cs := [.int .i64 168, .int .i64 112]) (.cons .int (.cons .int .nil)) rfl (l := ([168, 112] : List Int)) (f := eI) rfl) rfl rfl rfl ?_
         obtain ⟨y_6, hy_6, hg⟩ := bind_some hg
         refine cb_ [0] [0] [] false (w_make_Dice_Of _ _ _ hy_6) ?_
         refine go_ ?_
         refine ch_n fun hU => ?_
         refine aw_r ?_
         obtain rfl := Option.some.inj hg
         exact fin_ [(0, 0)] ⟨rfl, rfl⟩
        ·refine awp_cut (ι := Bool) (fun (x40_3 : Bool) => mk [(0, .ptr 0 0), (40, .val (.bool x40_3))] [(0, .box [.sl 1 (encL eI d.L), .val (.int .i64 d.At)] 61)] 1) (fun (x40_3 : Bool) => g_make_size.j3 d x40_3 = some r) ?_ ?_
         ·refine awp_seq ?_
          refine awp_region (sys _ _ []) 65 81 hU rfl rfl ?_
          refine go_ ?_
          refine ch_n fun hU => ?_
          refine cg_ rfl hg (fun h30 hg => ?_) fun h30 hg => ?_
          ·refine awp_skip ?_
           repeat first | refine st_ ?_ | refine sn_ ?_
           exact ⟨decide (a = 16), hg, sub_ [(0, 0)]⟩
          ·refine awp_region (sys _ _ []) 81 97 hU rfl rfl ?_
           refine go_ ?_
           refine ch_n fun hU => ?_
           exact ⟨decide (a = 17), hg, sub_ [(0, 0)]⟩
         ·rintro x40_3 hg
          replace hg : g_make_size.j3 d x40_3 = some r := hg
          show awp _ _ _ _ (mk _ _ _)
          unfold g_make_size.j3 at hg
          refine cg_ rfl hg (fun h32 hg => ?_) fun h32 hg => ?_
          ·refine awp_seq ?_
           refine awp_region (sys _ _ [9]) 1 33 mk_U rfl rfl ?_
           refine go_ ?_
           refine ch_z (rd := []) rfl rfl (r_buildFull sl22 z3 (by decide) rfl rfl rfl rfl ck3 (cs := [.int .i64 128, .int .i64 256]) (.cons .int (.cons .int .nil)) rfl (l := ([128, 256] : List Int)) (f := eI) rfl) rfl rfl rfl ?_
           obtain ⟨y_7, hy_7, hg⟩ := bind_some hg
           refine cb_ [0] [0] [] false (w_make_Dice_Of _ _ _ hy_7) ?_
           refine go_ ?_
           refine ch_n fun hU => ?_
           refine aw_r ?_
           obtain rfl := Option.some.inj hg
           exact fin_ [(0, 0)] ⟨rfl, rfl⟩
          ·refine awp_skip ?_
           repeat first | refine st_ ?_ | refine sn_ ?_
           refine sr_ 1 9 mk_U ?_
           refine go_ ?_
           refine ch_n fun hU => ?_
           refine aw_r ?_
           obtain rfl := Option.some.inj hg
           exact fin_ [(0, 0)] ⟨rfl, rfl⟩
theorem w_make_Use (d : cipherplanmake_Dice) (r : api_Use × cipherplanmake_Dice) (hg : g_make_Use d = some r) : Fn Try.prog 13 1 [.ptr 0 0] [.box [.sl 1 (encL eI d.L), .val (.int .i64 d.At)] 61] (fun d' b' => d' = .agg [.val (.int .i64 r.1.Alg), .val (.int .i64 r.1.Bits)] ∧ b' = [.box [.sl 1 (encL eI r.2.L), .val (.int .i64 r.2.At)] 61]) := by
 unfold g_make_Use at hg
 refine Fn.of Try.func13 rfl rfl rfl fun w0 I ρ0 => ?_
 show awp _ ⟨w0, I, ρ0, 1, 1, 12⟩ _ _ _
 refine sr_ 1 9 mk_U ?_
 refine go_ ?_
 refine ch_n fun hU => ?_
 refine sr_ 9 41 hU ?_
 refine go_ ?_
 obtain ⟨y, hy, hg⟩ := bind_some hg
 refine cb_ [0] [0] [] false (w_make_Dice_Next _ _ _ hy) ?_
 refine go_ ?_
 refine ch_n fun hU => ?_
 refine sr_ 41 89 hU ?_
 refine go_ ?_
 obtain ⟨y_2, hy_2, hg⟩ := bind_some hg
 refine cb_ [0] [0] [] false (w_make_size _ _ _ hy_2) ?_
 refine c0_ rfl rfl (.build (r := [.val (.int .i64 (W (1 + y.1))), .val (.int .i64 y_2.1)]) und24 pl24 z24 (by kernel_rfl) rfl) rfl rfl ?_
 refine go_ ?_
 refine ch_n fun hU => ?_
 refine aw_r ?_
 obtain rfl := Option.some.inj hg
 exact fin_ [(0, 0)] ⟨rfl, rfl⟩
theorem w_law19_made (d : cipherplanmake_Dice) (r : api_Exception × cipherplanmake_Dice) (hg : g_law19_made d = some r) : Fn Try.prog 9 1 [.ptr 0 0] [.box [.sl 1 (encL eI d.L), .val (.int .i64 d.At)] 61] (fun d' b' => d' = .agg [.val (.int .i64 r.1.Use.Alg), .val (.int .i64 r.1.Use.Bits), .val (.int .i64 r.1.Purpose), .val (.string r.1.Endpoint), .val (.int .i64 r.1.Days.From), .val (.int .i64 r.1.Days.To), .row 1] ∧ b' = [.box [.sl 1 (encL eI r.2.L), .val (.int .i64 r.2.At)] 61, .row 65 2 (encL api_Seal.enc r.1.Seals)]) := by
 unfold g_law19_made at hg
 refine Fn.of Try.func9 rfl rfl rfl fun w0 I ρ0 => ?_
 show awp _ ⟨w0, I, ρ0, 1, 1, 72⟩ _ _ _
 refine sr_ 1 9 mk_U ?_
 refine go_ ?_
 refine ch_n fun hU => ?_
 refine awp_seq ?_
 refine awp_region (sys _ _ [41]) 9 81 hU rfl rfl ?_
 refine go_ ?_
 obtain ⟨y, hy, hg⟩ := bind_some hg
 refine cb_ [0] [0] [] false (w_make_Use _ _ hy) ?_
 refine go_ ?_
 refine ch_z (rd := []) rfl rfl (r_buildFull sl85 z9 (by decide) rfl rfl rfl rfl ck9 (cs := [.str (⟨#[119, 101, 98]⟩ : ByteArray), .str (⟨#[100, 98]⟩ : ByteArray)]) (.cons .str (.cons .str .nil)) rfl (l := ([(⟨#[119, 101, 98]⟩ : ByteArray), (⟨#[100, 98]⟩ : ByteArray)] : List ByteArray)) (f := eS) rfl) rfl rfl rfl ?_
 obtain ⟨y_2, hy_2, hg⟩ := bind_some hg
 refine cb_ [0] [0] [] false (w_make_Dice_Word _ _ _ hy_2) ?_
 obtain ⟨y_3, hy_3, hg⟩ := bind_some hg
 refine ch_call (rd := [0]) (ps := [0]) (gs := []) false rfl (w_make_Exception _ _ _ _ hy_3) rfl rfl (.cons (.ptr rfl) (.cons (.agg (.cons .val (.cons .val .nil))) (.cons .val .nil))) ⟨_, _, _, rfl, .head _, ⟨_, rfl, (by repeat' (first | exact AgL.nil | apply AgL.cons | exact Ag.val | exact Ag.sl | exact Ag.nils | exact Ag.ptr rfl | exact Ag.rowK rfl))⟩, rfl⟩ rfl (by intro h; cases h) rfl (by intro h; first | (cases h; done) | exact ⟨_, _, ⟨rfl, rfl⟩, by simp, by simp⟩) ?_
 rintro _ _ ⟨rfl, rfl⟩
 refine go_ ?_
 refine ch_n fun hU => ?_
 refine awp_cut (ι := List Int × Int × Int × Int × Int × ByteArray × Int × Int × List api_Seal) (fun ((b_2, b_2_2, x_2, x_2_2, x_2_3, x_2_4, x_2_5, x_2_6, l_2_2) : List Int × Int × Int × Int × Int × ByteArray × Int × Int × List api_Seal) => mk [(2, .ptr 1 0), (3, .ptr 2 0)] [(0, .box [.sl 1 (encL eI b_2), .val (.int .i64 b_2_2)] 61), (1, .box [.val (.int .i64 0), .val (.int .i64 0), .val (.int .i64 0), .val (.string (⟨#[]⟩ : ByteArray)), .val (.int .i64 0), .val (.int .i64 0), .val (.slice none 0 0)] 29), (2, .box [.val (.int .i64 x_2), .val (.int .i64 x_2_2), .val (.int .i64 x_2_3), .val (.string x_2_4), .val (.int .i64 x_2_5), .val (.int .i64 x_2_6), .row 3] 29), (3, .row 65 2 (encL api_Seal.enc l_2_2))] 4) (fun ((b_2, b_2_2, x_2, x_2_2, x_2_3, x_2_4, x_2_5, x_2_6, l_2_2) : List Int × Int × Int × Int × Int × ByteArray × Int × Int × List api_Seal) => g_law19_made.j2 b_2 b_2_2 x_2 x_2_2 x_2_3 x_2_4 x_2_5 x_2_6 l_2_2 = some r) ?_ ?_
 ·refine awp_seq ?_
  refine awp_region (sys _ _ []) 81 97 hU rfl rfl ?_
  refine go_ ?_
  obtain ⟨y_4, hy_4, hg⟩ := bind_some hg
  refine cb_ [0] [0] [] false (w_make_Dice_Next _ _ _ hy_4) ?_
  refine ch_n fun hU => ?_
  refine awp_block ?_
  refine sr_ 97 113 hU ?_
  refine go_ ?_
  refine ch_n fun hU => ?_
  refine cg_ rfl hg (fun h5 hg => ?_) fun h5 hg => ?_
  ·refine awp_region (sys _ _ []) 113 137 hU rfl rfl ?_
   refine c0_ rfl rfl (.build (r := [.val (.int .i64 99), .val (.int .i64 0)]) und24 pl24 z24 (by kernel_rfl) rfl) rfl rfl ?_
   refine go_ ?_
   refine ch_n fun hU => ?_
   exact ⟨(y_4.2.L, y_4.2.At, 99, 0, y_3.1.Purpose, y_3.1.Endpoint, y_3.1.Days.From, y_3.1.Days.To, y_3.1.Seals), hg, sub_ [(0, 0), (1, 1), (2, 65), (3, 57)]⟩
  ·refine awp_seq ?_
   refine awp_region (sys _ _ []) 113 129 hU rfl rfl ?_
   refine go_ ?_
   refine ch_n fun hU => ?_
   refine cg_ rfl hg (fun h8 hg => ?_) fun h8 hg => ?_
   ·refine awp_region (sys _ _ [137]) 129 169 hU rfl rfl ?_
    refine go_ ?_
    refine ch_z (rd := []) rfl rfl (r_buildFull sl22 z3 (by decide) rfl rfl rfl rfl ck3 (cs := [.int .i64 0, .int .i64 5]) (.cons .int (.cons .int .nil)) rfl (l := ([0, 5] : List Int)) (f := eI) rfl) rfl rfl rfl ?_
    obtain ⟨y_5, hy_5, hg⟩ := bind_some hg
    refine cb_ [0] [0] [] false (w_make_Dice_Of _ _ _ hy_5) ?_
    refine go_ ?_
    refine ch_n fun hU => ?_
    exact ⟨(y_5.2.L, y_5.2.At, y_3.1.Use.Alg, y_3.1.Use.Bits, y_5.1, y_3.1.Endpoint, y_3.1.Days.From, y_3.1.Days.To, y_3.1.Seals), hg, sub_ [(0, 0), (1, 1), (2, 65), (3, 57)]⟩
   ·refine awp_seq ?_
    refine awp_region (sys _ _ []) 129 145 hU rfl rfl ?_
    refine go_ ?_
    refine ch_n fun hU => ?_
    refine cg_ rfl hg (fun h11 hg => ?_) fun h11 hg => ?_
    ·refine awp_region (sys _ _ [153]) 145 185 hU rfl rfl ?_
     refine go_ ?_
     refine ch_z (rd := []) rfl rfl (r_buildFull sl85 z9 (by decide) rfl rfl rfl rfl ck9 (cs := [.str (⟨#[]⟩ : ByteArray), .str (⟨#[97, 32, 98]⟩ : ByteArray)]) (.cons .str (.cons .str .nil)) rfl (l := ([(⟨#[]⟩ : ByteArray), (⟨#[97, 32, 98]⟩ : ByteArray)] : List ByteArray)) (f := eS) rfl) rfl rfl rfl ?_
     obtain ⟨y_6, hy_6, hg⟩ := bind_some hg
     refine cb_ [0] [0] [] false (w_make_Dice_Word _ _ _ hy_6) ?_
     refine go_ ?_
     refine ch_n fun hU => ?_
     exact ⟨(y_6.2.L, y_6.2.At, y_3.1.Use.Alg, y_3.1.Use.Bits, y_3.1.Purpose, y_6.1, y_3.1.Days.From, y_3.1.Days.To, y_3.1.Seals), hg, sub_ [(0, 0), (1, 1), (2, 65), (3, 57)]⟩
    ·refine awp_seq ?_
     refine awp_region (sys _ _ []) 145 161 hU rfl rfl ?_
     refine go_ ?_
     refine ch_n fun hU => ?_
     refine cg_ rfl hg (fun h14 hg => ?_) fun h14 hg => ?_
     ·refine awp_region (sys _ _ [169, 193]) 161 233 hU rfl rfl ?_
      refine go_ ?_
      refine ch_z (rd := []) rfl rfl (r_buildFull sl22 z3 (by decide) rfl rfl rfl rfl ck3 (cs := [.int .i64 9, .int .i64 (-1), .int .i64 0]) (.cons .int (.cons .int (.cons .int .nil))) rfl (l := ([9, -1, 0] : List Int)) (f := eI) rfl) rfl rfl rfl ?_
      obtain ⟨y_7, hy_7, hg⟩ := bind_some hg
      refine cb_ [0] [0] [] false (w_make_Dice_Of _ _ _ hy_7) ?_
      refine go_ ?_
      refine ch_z (rd := []) rfl rfl (r_buildFull sl22 z3 (by decide) rfl rfl rfl rfl ck3 (cs := [.int .i64 9, .int .i64 40001, .int .i64 40002]) (.cons .int (.cons .int (.cons .int .nil))) rfl (l := ([9, 40001, 40002] : List Int)) (f := eI) rfl) rfl rfl rfl ?_
      obtain ⟨y_8, hy_8, hg⟩ := bind_some hg
      refine cb_ [0] [0] [] false (w_make_Dice_Of _ _ _ hy_8) ?_
      refine c0_ rfl rfl (.build (r := [.val (.int .i64 y_7.1), .val (.int .i64 y_8.1)]) und26 pl26 z26 (by kernel_rfl) rfl) rfl rfl ?_
      refine go_ ?_
      refine ch_n fun hU => ?_
      exact ⟨(y_8.2.L, y_8.2.At, y_3.1.Use.Alg, y_3.1.Use.Bits, y_3.1.Purpose, y_3.1.Endpoint, y_7.1, y_8.1, y_3.1.Seals), hg, sub_ [(0, 0), (1, 1), (2, 65), (3, 57)]⟩
     ·refine awp_seq ?_
      refine awp_region (sys _ _ []) 161 177 hU rfl rfl ?_
      refine go_ ?_
      refine ch_n fun hU => ?_
      refine cg_ rfl hg (fun h17 hg => ?_) fun h17 hg => ?_
      ·refine awp_draw (sys _ _ [201, 225]) (by kernel_rfl) [0, 1, 0, 0, 12, 0, 0, 124, 252, 508, 1023, 2047, 4095] 177 281 hU rfl rfl (by kernel_rfl) ?_
       refine go_ ?_
       refine ch_z (rd := []) rfl rfl (r_buildFull sl22 z3 (by decide) rfl rfl rfl rfl ck3 (cs := [.int .i64 0, .int .i64 2147483648, .int .i64 2147483649]) (.cons .int (.cons .int (.cons .int .nil))) rfl (l := ([0, 2147483648, 2147483649] : List Int)) (f := eI) rfl) rfl rfl rfl ?_
       obtain ⟨y_9, hy_9, hg⟩ := bind_some hg
       refine cb_ [0] [0] [] false (w_make_Dice_Of _ _ _ hy_9) ?_
       refine go_ ?_
       refine ch_z (rd := []) rfl rfl (r_buildFull sl22 z3 (by decide) rfl rfl rfl rfl ck3 (cs := [.int .i64 4294967296, .int .i64 5]) (.cons .int (.cons .int .nil)) rfl (l := ([4294967296, 5] : List Int)) (f := eI) rfl) rfl rfl rfl ?_
       obtain ⟨y_10, hy_10, hg⟩ := bind_some hg
       refine cb_ [0] [0] [] false (w_make_Dice_Of _ _ _ hy_10) ?_
       refine c0_ rfl rfl (.build (r := [.val (.int .i64 y_9.1), .val (.int .i64 y_10.1)]) und65 pl65 z65 (by kernel_rfl) rfl) rfl rfl ?_
       refine c0_ rfl rfl (r_buildFull sl27 z65 (by decide) rfl rfl rfl rfl ck65 (cs := [.int .i64 y_9.1, .int .i64 y_10.1]) (.cons .int (.cons .int .nil)) rfl (l := ([(api_Seal.mk y_9.1 y_10.1)] : List api_Seal)) (f := api_Seal.enc) rfl) rfl rfl ?_
       obtain ⟨l, hl, hg⟩ := bind_some hg
       refine ch_s (rd := [57, 249]) rfl rfl (r_append sl27 api_Seal.enc_len .row rfl .row rfl hl rfl) rfl rfl ?_
       refine go_ ?_
       refine ch_n fun hU => ?_
       exact ⟨(y_10.2.L, y_10.2.At, y_3.1.Use.Alg, y_3.1.Use.Bits, y_3.1.Purpose, y_3.1.Endpoint, y_3.1.Days.From, y_3.1.Days.To, l), hg, sub_ [(0, 0), (1, 1), (2, 65), (3, 257)]⟩
      ·refine awp_seq ?_
       refine awp_region (sys _ _ []) 177 193 hU rfl rfl ?_
       refine go_ ?_
       refine ch_n fun hU => ?_
       refine cg_ rfl hg (fun h20 hg => ?_) fun h20 hg => ?_
       ·refine awp_seq ?_
        refine awp_region (sys _ _ []) 193 201 hU rfl rfl ?_
        refine go_ ?_
        refine ch_n fun hU => ?_
        refine awp_block ?_
        refine lp_ (fun ((i_1, d_1, d_1_2, l_1) : Int × List Int × Int × List api_Seal) => mk [(0, .ptr 0 0), (2, .ptr 1 0), (3, .ptr 2 0), (4, .val (.int .i64 i_1))] [(0, .box [.sl 1 (encL eI d_1), .val (.int .i64 d_1_2)] 61), (1, .box [.val (.int .i64 0), .val (.int .i64 0), .val (.int .i64 0), .val (.string (⟨#[]⟩ : ByteArray)), .val (.int .i64 0), .val (.int .i64 0), .val (.slice none 0 0)] 29), (2, .box [.val (.int .i64 y_3.1.Use.Alg), .val (.int .i64 y_3.1.Use.Bits), .val (.int .i64 y_3.1.Purpose), .val (.string y_3.1.Endpoint), .val (.int .i64 y_3.1.Days.From), .val (.int .i64 y_3.1.Days.To), .row 3] 29), (3, .row 65 2 (encL api_Seal.enc l_1))] 4) hg (sub_ [(0, 0), (1, 1), (2, 65), (3, 57)]) ?_
        rintro ⟨i_1, d_1, d_1_2, l_1⟩ m1 o1 hg hn1
        replace hg : g_law19_made.l1 y_3 i_1 d_1 d_1_2 l_1 = some o1 := hg
        show awp _ _ _ _ (mk _ _ _)
        unfold g_law19_made.l1 at hg
        refine awp_seq ?_
        refine sr_ 4 44 mk_U ?_
        refine go_ ?_
        obtain ⟨y_11, hy_11, hg⟩ := bind_some hg
        refine cb_ [0] [0] [] false (w_make_Dice_Next _ _ _ hy_11) ?_
        refine go_ ?_
        refine ch_n fun hU => ?_
        refine cg_ rfl hg (fun h23 hg => ?_) fun h23 hg => ?_
        ·refine awp_skip ?_
         repeat first | refine st_ ?_ | refine sn_ ?_
         refine awp_seq ?_
         refine awp_block ?_
         refine awp_region (sys _ _ []) 44 116 hU rfl rfl ?_
         refine go_ ?_
         refine c0_ rfl rfl (.build (r := [.val (.int .i64 (W (100 + i_1))), .val (.int .i64 0)]) und65 pl65 z65 (by kernel_rfl) rfl) rfl rfl ?_
         refine c0_ rfl rfl (r_buildFull sl27 z65 (by decide) rfl rfl rfl rfl ck65 (cs := [.int .i64 (W (100 + i_1)), .int .i64 0]) (.cons .int (.cons .int .nil)) rfl (l := ([(api_Seal.mk (W (100 + i_1)) 0)] : List api_Seal)) (f := api_Seal.enc) rfl) rfl rfl ?_
         obtain ⟨l_2, hl_2, hg⟩ := bind_some hg
         refine ch_s (rd := [3, 84]) rfl rfl (r_append sl27 api_Seal.enc_len .row rfl .row rfl hl_2 rfl) rfl rfl ?_
         refine go_ ?_
         refine ch_n fun hU => ?_
         refine awp_region (sys _ _ []) 116 140 hU rfl rfl ?_
         refine go_ ?_
         refine ch_n fun hU => ?_
         obtain rfl := Option.some.inj hg
         exact ⟨((W (i_1 + 1), y_11.2.L, y_11.2.At, l_2), m1), Nat.lt_succ_self _, hn1, sub_ [(0, 0), (1, 1), (2, 2), (3, 92)]⟩
        ·refine awp_exit ?_
         repeat first | refine st_ ?_ | refine sn_ ?_
         replace hg := leave hg hn1
         exact ⟨(y_11.2.L, y_11.2.At, y_3.1.Use.Alg, y_3.1.Use.Bits, y_3.1.Purpose, y_3.1.Endpoint, y_3.1.Days.From, y_3.1.Days.To, l_1), hg, sub_ [(0, 0), (1, 1), (2, 2), (3, 3)]⟩
       ·refine awp_skip ?_
        repeat first | refine st_ ?_ | refine sn_ ?_
        exact ⟨(y_4.2.L, y_4.2.At, y_3.1.Use.Alg, y_3.1.Use.Bits, y_3.1.Purpose, y_3.1.Endpoint, y_3.1.Days.From, y_3.1.Days.To, y_3.1.Seals), hg, sub_ [(0, 0), (1, 1), (2, 65), (3, 57)]⟩
 ·rintro ⟨b_2, b_2_2, x_2, x_2_2, x_2_3, x_2_4, x_2_5, x_2_6, l_2_2⟩ hg
  replace hg : g_law19_made.j2 b_2 b_2_2 x_2 x_2_2 x_2_3 x_2_4 x_2_5 x_2_6 l_2_2 = some r := hg
  show awp _ _ _ _ (mk _ _ _)
  unfold g_law19_made.j2 at hg
  refine sr_ 4 20 mk_U ?_
  refine go_ ?_
  refine ch_n fun hU => ?_
  refine aw_r ?_
  obtain rfl := Option.some.inj hg
  exact fin_ [(0, 0), (1, 3)] ⟨rfl, rfl⟩
theorem w_law19_list (d : cipherplanmake_Dice) (u : api_Use) (odd : Bool) (r : (List api_Exception) × cipherplanmake_Dice) (hg : g_law19_list d u odd = some r) : Fn Try.prog 27 1 [.ptr 0 0, .agg [.val (.int .i64 u.Alg), .val (.int .i64 u.Bits)], .val (.bool odd)] [.box [.sl 1 (encL eI d.L), .val (.int .i64 d.At)] 61] (fun d' b' => d' = .sl 7 (encL api_Exception.enc r.1) ∧ b' = [.box [.sl 1 (encL eI r.2.L), .val (.int .i64 r.2.At)] 61]) := by
 unfold g_law19_list at hg
 refine Fn.of Try.func27 rfl rfl rfl fun w0 I ρ0 => ?_
 show awp _ ⟨w0, I, ρ0, 1, 1, 34⟩ _ _ _
 refine sr_ 1 17 mk_U ?_
 refine go_ ?_
 refine ch_n fun hU => ?_
 refine sr_ 17 25 hU ?_
 refine go_ ?_
 refine ch_n fun hU => ?_
 refine awp_seq ?_
 refine sr_ 25 49 hU ?_
 refine go_ ?_
 obtain ⟨y, hy, hg⟩ := bind_some hg
 refine cb_ [0] [0] [] false (w_make_Dice_Next _ _ _ hy) ?_
 refine go_ ?_
 refine ch_n fun hU => ?_
 refine awp_block ?_
 refine lp_ (fun ((i_1, d_1, l_1) : Int × cipherplanmake_Dice × List api_Exception) => mk [(0, .ptr 0 0), (2, .val (.bool odd)), (4, .ptr 1 0), (7, .row 2), (8, .val (.int .i64 i_1))] [(0, .box [.sl 1 (encL eI d_1.L), .val (.int .i64 d_1.At)] 61), (1, .box [.val (.int .i64 u.Alg), .val (.int .i64 u.Bits)] 24), (2, .row 29 7 (encL api_Exception.enc l_1))] 3) hg (sub_ [(0, 0), (1, 1)]) ?_
 rintro ⟨i_1, d_1, l_1⟩ m1 o1 hg hn1
 replace hg : g_law19_list.l1 u odd i_1 d_1 l_1 = some o1 := hg
 show awp _ _ _ _ (mk _ _ _)
 unfold g_law19_list.l1 at hg
 refine awp_seq ?_
 refine sr_ 3 19 mk_U ?_
 refine go_ ?_
 refine ch_n fun hU => ?_
 refine cg_ rfl hg (fun h5 hg => ?_) fun h5 hg => ?_
 ·refine awp_skip ?_
  repeat first | refine st_ ?_ | refine sn_ ?_
  refine awp_seq ?_
  refine awp_block ?_
  refine awp_seq ?_
  refine awp_draw (sys _ _ [43]) (by kernel_rfl) [0, 0, 0, 0, 12, 31, 0, 127] 19 83 hU rfl rfl (by kernel_rfl) ?_
  refine go_ ?_
  refine ch_z (rd := []) rfl rfl (r_buildFull sl85 z9 (by decide) rfl rfl rfl rfl ck9 (cs := [.str (⟨#[119, 101, 98]⟩ : ByteArray), .str (⟨#[119, 101, 98]⟩ : ByteArray), .str (⟨#[100, 98]⟩ : ByteArray)]) (.cons .str (.cons .str (.cons .str .nil))) rfl (l := ([(⟨#[119, 101, 98]⟩ : ByteArray), (⟨#[119, 101, 98]⟩ : ByteArray), (⟨#[100, 98]⟩ : ByteArray)] : List ByteArray)) (f := eS) rfl) rfl rfl rfl ?_
  obtain ⟨y_2, hy_2, hg⟩ := bind_some hg
  refine cb_ [0] [0] [] false (w_make_Dice_Word _ _ _ hy_2) ?_
  obtain ⟨y_3, hy_3, hg⟩ := bind_some hg
  refine ch_call (rd := [0]) (ps := [0]) (gs := []) false rfl (w_make_Exception _ _ _ _ hy_3) rfl rfl (.cons (.ptr rfl) (.cons (.agg (.cons .val (.cons .val .nil))) (.cons .val .nil))) ⟨_, _, _, rfl, .head _, ⟨_, rfl, (by repeat' (first | exact AgL.nil | apply AgL.cons | exact Ag.val | exact Ag.sl | exact Ag.nils | exact Ag.ptr rfl | exact Ag.rowK rfl))⟩, rfl⟩ rfl (by intro h; cases h) rfl (by intro h; first | (cases h; done) | exact ⟨_, _, ⟨rfl, rfl⟩, by simp, by simp⟩) ?_
  rintro _ _ ⟨rfl, rfl⟩
  refine go_ ?_
  refine ch_n fun hU => ?_
  refine awp_cut (ι := cipherplanmake_Dice × Int × Int × Int × ByteArray × Int × Int × List api_Seal) (fun ((d_3, x_3, x_3_2, x_3_3, x_3_4, x_3_5, x_3_6, l_3) : cipherplanmake_Dice × Int × Int × Int × ByteArray × Int × Int × List api_Seal) => mk [(0, .ptr 0 0), (2, .val (.bool odd)), (4, .ptr 1 0), (7, .row 2), (8, .val (.int .i64 i_1)), (9, .ptr 3 0)] [(0, .box [.sl 1 (encL eI d_3.L), .val (.int .i64 d_3.At)] 61), (1, .box [.val (.int .i64 u.Alg), .val (.int .i64 u.Bits)] 24), (2, .row 29 7 (encL api_Exception.enc l_1)), (3, .box [.val (.int .i64 x_3), .val (.int .i64 x_3_2), .val (.int .i64 x_3_3), .val (.string x_3_4), .val (.int .i64 x_3_5), .val (.int .i64 x_3_6), .row 4] 29), (4, .row 65 2 (encL api_Seal.enc l_3))] 5) (fun ((d_3, x_3, x_3_2, x_3_3, x_3_4, x_3_5, x_3_6, l_3) : cipherplanmake_Dice × Int × Int × Int × ByteArray × Int × Int × List api_Seal) => g_law19_list.j3 i_1 l_1 d_3 x_3 x_3_2 x_3_3 x_3_4 x_3_5 x_3_6 l_3 = some o1) ?_ ?_
  ·refine awp_cut (ι := Bool × cipherplanmake_Dice) (fun ((x26_2, d_2) : Bool × cipherplanmake_Dice) => mk [(0, .ptr 0 0), (2, .val (.bool odd)), (4, .ptr 1 0), (7, .row 2), (8, .val (.int .i64 i_1)), (9, .ptr 3 0), (26, .val (.bool x26_2))] [(0, .box [.sl 1 (encL eI d_2.L), .val (.int .i64 d_2.At)] 61), (1, .box [.val (.int .i64 u.Alg), .val (.int .i64 u.Bits)] 24), (2, .row 29 7 (encL api_Exception.enc l_1)), (3, .box [.val (.int .i64 y_3.1.Use.Alg), .val (.int .i64 y_3.1.Use.Bits), .val (.int .i64 y_3.1.Purpose), .val (.string y_3.1.Endpoint), .val (.int .i64 y_3.1.Days.From), .val (.int .i64 y_3.1.Days.To), .row 4] 29), (4, .row 65 2 (encL api_Seal.enc y_3.1.Seals))] 5) (fun ((x26_2, d_2) : Bool × cipherplanmake_Dice) => g_law19_list.j2 i_1 l_1 y_3 x26_2 d_2 = some o1) ?_ ?_
   ·refine awp_region (sys _ _ []) 83 123 hU rfl rfl ?_
    refine go_ ?_
    rcases bc_ hg with ⟨h7, hg⟩ | ⟨h7, hg⟩
    ·refine go_ ?_
     obtain ⟨y_4, hy_4, hg⟩ := bind_some hg
     refine cb_ [0] [0] [] false (w_make_Dice_One _ _ _ hy_4) ?_
     refine go_ ?_
     refine ch_n fun hU => ?_
     exact ⟨(y_4.1, y_4.2), hg, sub_ [(0, 0), (1, 1), (2, 2), (3, 67), (4, 59)]⟩
    ·refine go_ ?_
     refine ch_n fun hU => ?_
     exact ⟨(false, y_3.2), hg, sub_ [(0, 0), (1, 1), (2, 2), (3, 67), (4, 59)]⟩
   ·rintro ⟨x26_2, d_2⟩ hg
    replace hg : g_law19_list.j2 i_1 l_1 y_3 x26_2 d_2 = some o1 := hg
    show awp _ _ _ _ (mk _ _ _)
    unfold g_law19_list.j2 at hg
    refine cg_ rfl hg (fun h10 hg => ?_) fun h10 hg => ?_
    ·refine awp_region (sys _ _ []) 5 29 mk_U rfl rfl ?_
     refine go_ ?_
     obtain ⟨y_5, hy_5, hg⟩ := bind_some hg
     refine ch_call (rd := [0]) (ps := [0]) (gs := []) false rfl (w_law19_made _ _ hy_5) rfl rfl (.cons (.ptr rfl) .nil) ⟨_, _, _, rfl, .head _, ⟨_, rfl, (by repeat' (first | exact AgL.nil | apply AgL.cons | exact Ag.val | exact Ag.sl | exact Ag.nils | exact Ag.ptr rfl | exact Ag.rowK rfl))⟩, rfl⟩ rfl (by intro h; cases h) rfl (by intro h; first | (cases h; done) | exact ⟨_, _, ⟨rfl, rfl⟩, by simp, by simp⟩) ?_
     rintro _ _ ⟨rfl, rfl⟩
     refine go_ ?_
     refine ch_n fun hU => ?_
     exact ⟨(y_5.2, y_5.1.Use.Alg, y_5.1.Use.Bits, y_5.1.Purpose, y_5.1.Endpoint, y_5.1.Days.From, y_5.1.Days.To, y_5.1.Seals), hg, sub_ [(0, 0), (1, 1), (2, 2), (3, 3), (4, 13)]⟩
    ·refine awp_skip ?_
     repeat first | refine st_ ?_ | refine sn_ ?_
     exact ⟨(d_2, y_3.1.Use.Alg, y_3.1.Use.Bits, y_3.1.Purpose, y_3.1.Endpoint, y_3.1.Days.From, y_3.1.Days.To, y_3.1.Seals), hg, sub_ [(0, 0), (1, 1), (2, 2), (3, 3), (4, 4)]⟩
  ·rintro ⟨d_3, x_3, x_3_2, x_3_3, x_3_4, x_3_5, x_3_6, l_3⟩ hg
   replace hg : g_law19_list.j3 i_1 l_1 d_3 x_3 x_3_2 x_3_3 x_3_4 x_3_5 x_3_6 l_3 = some o1 := hg
   show awp _ _ _ _ (mk _ _ _)
   unfold g_law19_list.j3 at hg
   refine awp_sub (σ' := mk [(0, .ptr 0 0), (2, .val (.bool odd)), (4, .ptr 1 0), (7, .row 2), (8, .val (.int .i64 i_1)), (9, .ptr 3 0)] [(0, .box [.sl 1 (encL eI d_3.L), .val (.int .i64 d_3.At)] 61), (1, .box [.val (.int .i64 u.Alg), .val (.int .i64 u.Bits)] 24), (2, .row 29 7 (encL api_Exception.enc l_1)), (3, .box [.val (.int .i64 x_3), .val (.int .i64 x_3_2), .val (.int .i64 x_3_3), .val (.string x_3_4), .val (.int .i64 x_3_5), .val (.int .i64 x_3_6), .sl 2 (encL api_Seal.enc l_3)] 29)] 4) (sub_ [(0, 0), (1, 1), (2, 2), (3, 3)]) ?_
   refine awp_region (sys _ _ []) 4 44 mk_U rfl rfl ?_
   refine go_ ?_
   refine c0_ rfl rfl (r_buildFull sl55 z29 (by decide) rfl rfl rfl rfl ck29 (cs := [.int .i64 x_3, .int .i64 x_3_2, .int .i64 x_3_3, .str x_3_4, .int .i64 x_3_5, .int .i64 x_3_6, .sl 2 (encL api_Seal.enc l_3)]) (.cons .int (.cons .int (.cons .int (.cons .str (.cons .int (.cons .int (.cons .sl .nil))))))) rfl (l := ([(api_Exception.mk (api_Use.mk x_3 x_3_2) x_3_3 x_3_4 (api_Span.mk x_3_5 x_3_6) l_3)] : List api_Exception)) (f := api_Exception.enc) rfl) rfl rfl ?_
   obtain ⟨l, hl, hg⟩ := bind_some hg
   refine ch_s (rd := [2, 20]) rfl rfl (r_append sl55 api_Exception.enc_len .row rfl .row rfl hl rfl) rfl rfl ?_
   refine go_ ?_
   refine ch_n fun hU => ?_
   refine awp_region (sys _ _ []) 44 68 hU rfl rfl ?_
   refine go_ ?_
   refine ch_n fun hU => ?_
   obtain rfl := Option.some.inj hg
   exact ⟨((W (i_1 - 1), d_3, l), m1), Nat.lt_succ_self _, hn1, sub_ [(0, 0), (1, 1), (2, 28)]⟩
 ·refine awp_exit ?_
  repeat first | refine st_ ?_ | refine sn_ ?_
  replace hg := leave hg hn1
  refine sr_ 19 35 hU ?_
  refine go_ ?_
  refine ch_n fun hU => ?_
  refine aw_r ?_
  obtain rfl := Option.some.inj hg
  exact fin_ [(0, 0)] ⟨rfl, rfl⟩
theorem w_exception_ends (l : (List api_Exception)) (o : api_Owners) (u : api_Use) (purpose : Int) (endpoint : ByteArray) (day : Int) (r : Int × Bool) (hg : g_exception_ends l o u purpose endpoint day = some r) : Fn Try.prog 54 0 [.sl 7 (encL api_Exception.enc l), .agg [.sl 1 (encL eI o.Keys), .val (.int .i64 o.Need)], .agg [.val (.int .i64 u.Alg), .val (.int .i64 u.Bits)], .val (.int .i64 purpose), .val (.string endpoint), .val (.int .i64 day)] [] (fun d' b' => d' = .tup [.val (.int .i64 r.1), .val (.bool r.2)] ∧ b' = []) := by
 unfold g_exception_ends at hg
 refine Fn.of Try.func54 rfl rfl rfl fun w0 I ρ0 => ?_
 show awp _ ⟨w0, I, ρ0, 0, 0, 43⟩ _ _ _
 refine sr_ 0 32 mk_U ?_
 refine go_ ?_
 refine ch_n fun hU => ?_
 refine sr_ 32 48 hU ?_
 refine go_ ?_
 refine ch_n fun hU => ?_
 refine awp_seq ?_
 refine sr_ 48 72 hU ?_
 refine go_ ?_
 refine ch_n fun hU => ?_
 refine awp_block ?_
 refine lp_ (fun ((most_1, some_1, x20_1) : Int × Bool × Int) => mk [(3, .val (.int .i64 purpose)), (4, .val (.string endpoint)), (5, .val (.int .i64 day)), (7, .ptr 0 0), (8, .ptr 1 0), (14, .val (.int .i64 most_1)), (15, .val (.bool some_1)), (18, .sl 7 (encL api_Exception.enc l)), (19, .val (.int .i64 (l.length : Int))), (20, .val (.int .i64 x20_1))] [(0, .box [.sl 1 (encL eI o.Keys), .val (.int .i64 o.Need)] 36), (1, .box [.val (.int .i64 u.Alg), .val (.int .i64 u.Bits)] 24)] 2) hg (sub_ [(0, 0), (1, 8)]) ?_
 rintro ⟨most_1, some_1, x20_1⟩ m1 o1 hg hn1
 replace hg : g_exception_ends.l1 l o u purpose endpoint day most_1 some_1 x20_1 = some o1 := hg
 show awp _ _ _ _ (mk _ _ _)
 unfold g_exception_ends.l1 at hg
 refine sr_ 2 10 mk_U ?_
 refine go_ ?_
 refine ch_n fun hU => ?_
 refine awp_seq ?_
 refine cg_ rfl hg (fun h5 hg => ?_) fun h5 hg => ?_
 ·refine awp_skip ?_
  repeat first | refine st_ ?_ | refine sn_ ?_
  refine awp_cut (ι := Int × Bool) (fun ((most_3, some_3) : Int × Bool) => mk [(3, .val (.int .i64 purpose)), (4, .val (.string endpoint)), (5, .val (.int .i64 day)), (7, .ptr 0 0), (8, .ptr 1 0), (14, .val (.int .i64 most_3)), (15, .val (.bool some_3)), (18, .sl 7 (encL api_Exception.enc l)), (19, .val (.int .i64 (l.length : Int))), (20, .val (.int .i64 x20_1))] [(0, .box [.sl 1 (encL eI o.Keys), .val (.int .i64 o.Need)] 36), (1, .box [.val (.int .i64 u.Alg), .val (.int .i64 u.Bits)] 24)] 2) (fun ((most_3, some_3) : Int × Bool) => g_exception_ends.j3 x20_1 most_3 some_3 = some o1) ?_ ?_
  ·refine awp_block ?_
   refine sr_ 10 42 hU ?_
   obtain ⟨e, he, hg⟩ := bind_some hg
   refine go_ ?_
   refine c0_ rfl rfl (r_loadEA ty29 (enc_cells api_Exception.enc_len (getI_at he) (o := 0) (m := 7) (cs := [.int .i64 e.Use.Alg, .int .i64 e.Use.Bits, .int .i64 e.Purpose, .str e.Endpoint, .int .i64 e.Days.From, .int .i64 e.Days.To, .sl 2 (encL api_Seal.enc e.Seals)]) rfl (by decide) rfl) (enc_cells_le api_Exception.enc_len (getI_at he) (o := 0) (m := 7) (by decide) rfl)) rfl rfl ?_
   refine go_ ?_
   refine ch_n fun hU => ?_
   refine awp_cut (ι := Bool) (fun (x34_2 : Bool) => mk [(3, .val (.int .i64 purpose)), (4, .val (.string endpoint)), (5, .val (.int .i64 day)), (7, .ptr 0 0), (8, .ptr 1 0), (14, .val (.int .i64 most_1)), (15, .val (.bool some_1)), (17, .ptr 2 0), (18, .sl 7 (encL api_Exception.enc l)), (19, .val (.int .i64 (l.length : Int))), (20, .val (.int .i64 x20_1)), (34, .val (.bool x34_2))] [(0, .box [.sl 1 (encL eI o.Keys), .val (.int .i64 o.Need)] 36), (1, .box [.val (.int .i64 u.Alg), .val (.int .i64 u.Bits)] 24), (2, .box (api_Exception.dv e) 29)] 3) (fun (x34_2 : Bool) => g_exception_ends.j2 most_1 some_1 x20_1 e x34_2 = some o1) ?_ ?_
   ·refine awp_region (sys _ _ []) 42 130 hU rfl rfl ?_
    refine go_ ?_
    obtain ⟨y, hy, hg⟩ := bind_some hg
    refine ca_ (w_exception_Covers _ _ _ _ _ _ hy) ?_
    refine go_ ?_
    rcases bc_ hg with ⟨h7, hg⟩ | ⟨h7, hg⟩
    ·refine go_ ?_
     obtain ⟨y_2, hy_2, hg⟩ := bind_some hg
     refine ca_ (w_exception_Valid _ _ _ hy_2) ?_
     refine go_ ?_
     refine ch_n fun hU => ?_
     exact ⟨y_2, hg, sub_ [(0, 0), (1, 1), (2, 26)]⟩
    ·refine go_ ?_
     refine ch_n fun hU => ?_
     exact ⟨false, hg, sub_ [(0, 0), (1, 1), (2, 26)]⟩
   ·rintro x34_2 hg
    replace hg : g_exception_ends.j2 most_1 some_1 x20_1 e x34_2 = some o1 := hg
    show awp _ _ _ _ (mk _ _ _)
    unfold g_exception_ends.j2 at hg
    refine cg_ rfl hg (fun h10 hg => ?_) fun h10 hg => ?_
    ·refine awp_region (sys _ _ []) 3 59 mk_U rfl rfl ?_
     refine go_ ?_
     refine c0_ rfl rfl r_max rfl rfl ?_
     refine go_ ?_
     refine ch_n fun hU => ?_
     exact ⟨(max most_1 e.Days.To, true), hg, sub_ [(0, 0), (1, 1)]⟩
    ·refine awp_skip ?_
     repeat first | refine st_ ?_ | refine sn_ ?_
     exact ⟨(most_1, some_1), hg, sub_ [(0, 0), (1, 1)]⟩
  ·rintro ⟨most_3, some_3⟩ hg
   replace hg : g_exception_ends.j3 x20_1 most_3 some_3 = some o1 := hg
   show awp _ _ _ _ (mk _ _ _)
   unfold g_exception_ends.j3 at hg
   refine awp_region (sys _ _ []) 2 18 mk_U rfl rfl ?_
   refine go_ ?_
   refine ch_n fun hU => ?_
   obtain rfl := Option.some.inj hg
   exact ⟨((most_3, some_3, W (x20_1 + 1)), m1), Nat.lt_succ_self _, hn1, sub_ [(0, 0), (1, 1)]⟩
 ·refine awp_exit ?_
  repeat first | refine st_ ?_ | refine sn_ ?_
  replace hg := leave hg hn1
  refine sr_ 10 42 hU ?_
  refine go_ ?_
  refine ch_n fun hU => ?_
  refine aw_r ?_
  obtain rfl := Option.some.inj hg
  exact fin_ [] ⟨rfl, rfl⟩
theorem w_exception_Ends (l : (List api_Exception)) (o : api_Owners) (u : api_Use) (purpose : Int) (endpoint : ByteArray) (day : Int) (r : Int × Bool) (hg : g_exception_Ends l o u purpose endpoint day = some r) : Fn Try.prog 28 0 [.sl 7 (encL api_Exception.enc l), .agg [.sl 1 (encL eI o.Keys), .val (.int .i64 o.Need)], .agg [.val (.int .i64 u.Alg), .val (.int .i64 u.Bits)], .val (.int .i64 purpose), .val (.string endpoint), .val (.int .i64 day)] [] (fun d' b' => d' = .tup [.val (.int .i64 r.1), .val (.bool r.2)] ∧ b' = []) := by
 unfold g_exception_Ends at hg
 refine Fn.of Try.func28 rfl rfl rfl fun w0 I ρ0 => ?_
 show awp _ ⟨w0, I, ρ0, 0, 0, 41⟩ _ _ _
 refine sr_ 0 32 mk_U ?_
 refine go_ ?_
 refine ch_n fun hU => ?_
 refine sr_ 32 128 hU ?_
 refine go_ ?_
 obtain ⟨y, hy, hg⟩ := bind_some hg
 refine ca_ (w_exception_ends _ _ _ _ _ _ _ hy) ?_
 refine go_ ?_
 refine ch_n fun hU => ?_
 refine awp_seq ?_
 refine sr_ 128 144 hU ?_
 refine go_ ?_
 refine ch_n fun hU => ?_
 refine cg_ rfl hg (fun h4 hg => ?_) fun h4 hg => ?_
 ·refine awp_seq ?_
  refine awp_region (sys _ _ []) 144 160 hU rfl rfl ?_
  refine go_ ?_
  refine ch_n fun hU => ?_
  refine aw_r ?_
  obtain rfl := Option.some.inj hg
  exact fin_ [] ⟨rfl, rfl⟩
 ·refine awp_skip ?_
  repeat first | refine st_ ?_ | refine sn_ ?_
  refine awp_seq ?_
  refine awp_block ?_
  refine lp_ (fun ((day_1, most_1, some_1) : Int × Int × Bool) => mk [(0, .sl 7 (encL api_Exception.enc l)), (3, .val (.int .i64 purpose)), (4, .val (.string endpoint)), (5, .val (.int .i64 day_1)), (7, .ptr 0 0), (8, .ptr 1 0), (14, .val (.int .i64 most_1)), (15, .val (.bool some_1))] [(0, .box [.sl 1 (encL eI o.Keys), .val (.int .i64 o.Need)] 36), (1, .box [.val (.int .i64 u.Alg), .val (.int .i64 u.Bits)] 24)] 2) hg (sub_ [(0, 0), (1, 8)]) ?_
  rintro ⟨day_1, most_1, some_1⟩ m1 o1 hg hn1
  replace hg : g_exception_Ends.l1 l o u purpose endpoint day_1 most_1 some_1 = some o1 := hg
  show awp _ _ _ _ (mk _ _ _)
  unfold g_exception_Ends.l1 at hg
  refine awp_seq ?_
  refine sr_ 2 10 mk_U ?_
  refine go_ ?_
  refine ch_n fun hU => ?_
  refine cg_ rfl hg (fun h7 hg => ?_) fun h7 hg => ?_
  ·refine awp_skip ?_
   repeat first | refine st_ ?_ | refine sn_ ?_
   refine awp_block ?_
   refine sr_ 10 26 hU ?_
   refine go_ ?_
   refine ch_n fun hU => ?_
   refine awp_region (sys _ _ []) 26 122 hU rfl rfl ?_
   refine go_ ?_
   obtain ⟨y_2, hy_2, hg⟩ := bind_some hg
   refine ca_ (w_exception_ends _ _ _ _ _ _ _ hy_2) ?_
   refine go_ ?_
   refine ch_n fun hU => ?_
   obtain rfl := Option.some.inj hg
   exact ⟨((most_1, y_2.1, y_2.2), m1), Nat.lt_succ_self _, hn1, sub_ [(0, 0), (1, 1)]⟩
  ·refine awp_exit ?_
   repeat first | refine st_ ?_ | refine sn_ ?_
   replace hg := leave hg hn1
   refine sr_ 10 34 hU ?_
   refine go_ ?_
   refine ch_n fun hU => ?_
   refine aw_r ?_
   obtain rfl := Option.some.inj hg
   exact fin_ [] ⟨rfl, rfl⟩
theorem w_law19_ExceptionEnds (l : (List Int)) (day : UInt8) (r : Bool) (hg : g_law19_ExceptionEnds l day = some r) : Fn Try.prog 5 0 [.sl 1 (encL eI l), .val (.int .u8 (day.toNat : Int))] [] (fun d' b' => d' = .val (.bool r) ∧ b' = []) := by
 unfold g_law19_ExceptionEnds at hg
 refine Fn.of Try.func5 rfl rfl rfl fun w0 I ρ0 => ?_
 show awp _ ⟨w0, I, ρ0, 0, 0, 80⟩ _ _ _
 refine sr_ 0 8 mk_U ?_
 refine go_ ?_
 refine ch_n fun hU => ?_
 refine awp_seq ?_
 refine sr_ 8 32 hU ?_
 refine go_ ?_
 obtain ⟨y, hy, hg⟩ := bind_some hg
 refine ca_ (w_make_Light _ _ hy) ?_
 refine go_ ?_
 refine ch_n fun hU => ?_
 refine cg_ rfl hg (fun h3 hg => ?_) fun h3 hg => ?_
 ·refine awp_seq ?_
  refine awp_region (sys _ _ []) 32 48 hU rfl rfl ?_
  obtain ⟨y_2, hy_2, hg⟩ := bind_some hg
  refine ca_ (w_law19_awake _ hy_2) ?_
  refine go_ ?_
  refine ch_n fun hU => ?_
  refine aw_r ?_
  obtain rfl := Option.some.inj hg
  exact fin_ [] ⟨rfl, rfl⟩
 ·refine awp_skip ?_
  repeat first | refine st_ ?_ | refine sn_ ?_
  refine sr_ 32 56 hU ?_
  refine go_ ?_
  obtain ⟨y_3, hy_3, hg⟩ := bind_some hg
  refine ch_call (rd := []) (ps := []) (gs := []) false rfl (w_make_Roll _ _ hy_3) rfl rfl (.cons .sl .nil) rfl rfl (by intro h; cases h) rfl (by intro h; first | (cases h; done) | exact ⟨_, _, ⟨rfl, rfl⟩, by simp, by simp⟩) ?_
  rintro _ _ ⟨rfl, rfl⟩
  refine go_ ?_
  refine ch_n fun hU => ?_
  refine sr_ 56 88 hU ?_
  refine c0_ rfl rfl (r_buildFull sl22 z3 (by decide) rfl rfl rfl rfl ck3 (cs := [.int .i64 51, .int .i64 52, .int .i64 53]) (.cons .int (.cons .int (.cons .int .nil))) rfl (l := ([51, 52, 53] : List Int)) (f := eI) rfl) rfl rfl ?_
  refine c0_ rfl rfl (.build (r := [.row 56, .val (.int .i64 1)]) und36 pl36 z36 (by kernel_rfl) rfl) rfl rfl ?_
  refine go_ ?_
  refine ch_n fun hU => ?_
  refine sr_ 88 112 hU ?_
  refine c0_ rfl rfl (.build (r := [.val (.int .i64 1), .val (.int .i64 0)]) und24 pl24 z24 (by kernel_rfl) rfl) rfl rfl ?_
  refine go_ ?_
  refine ch_n fun hU => ?_
  refine sr_ 112 144 hU ?_
  refine go_ ?_
  obtain ⟨y_4, hy_4, hg⟩ := bind_some hg
  refine cb_ [40] [40] [] false (w_law19_list _ _ _ _ hy_4) ?_
  refine go_ ?_
  refine ch_n fun hU => ?_
  refine sr_ 144 176 hU ?_
  refine go_ ?_
  refine c0_ rfl rfl (r_conv_8i (u := day) und5 und3) rfl rfl ?_
  obtain ⟨q, hq, hg⟩ := bind_some hg
  refine c0_ rfl rfl (r_rem hq) rfl rfl ?_
  refine go_ ?_
  refine ch_n fun hU => ?_
  refine sr_ 176 256 hU ?_
  refine go_ ?_
  obtain ⟨y_5, hy_5, hg⟩ := bind_some hg
  refine cb_ [56] [] [] true (w_exception_Ends _ _ _ _ _ _ _ hy_5) ?_
  refine go_ ?_
  refine ch_n fun hU => ?_
  refine awp_cut (ι := Int) (fun (end_1 : Int) => mk [(6, .ptr 0 0), (7, .ptr 1 0), (8, .sl 7 (encL api_Exception.enc y_4.1)), (9, .val (.int .i64 q)), (10, .val (.int .i64 end_1))] [(0, .box [.row 2, .val (.int .i64 1)] 36), (1, .box [.val (.int .i64 1), .val (.int .i64 0)] 24), (2, .row 3 1 (encL eI ([51, 52, 53] : List Int)))] 3) (fun (end_1 : Int) => g_law19_ExceptionEnds.j1 y_4 q end_1 = some r) ?_ ?_
  ·refine awp_seq ?_
   refine awp_region (sys _ _ []) 256 272 hU rfl rfl ?_
   refine go_ ?_
   refine ch_n fun hU => ?_
   refine cg_ rfl hg (fun h12 hg => ?_) fun h12 hg => ?_
   ·refine awp_region (sys _ _ []) 272 288 hU rfl rfl ?_
    refine go_ ?_
    refine ch_n fun hU => ?_
    exact ⟨q, hg, sub_ [(0, 72), (1, 96), (2, 56)]⟩
   ·refine awp_seq ?_
    refine awp_region (sys _ _ []) 272 296 hU rfl rfl ?_
    refine go_ ?_
    refine ch_n fun hU => ?_
    refine cg_ rfl hg (fun h15 hg => ?_) fun h15 hg => ?_
    ·refine awp_seq ?_
     refine awp_region (sys _ _ []) 296 304 hU rfl rfl ?_
     refine go_ ?_
     refine ch_n fun hU => ?_
     refine aw_r ?_
     obtain rfl := Option.some.inj hg
     exact fin_ [] ⟨rfl, rfl⟩
    ·refine awp_skip ?_
     repeat first | refine st_ ?_ | refine sn_ ?_
     exact ⟨y_5.1, hg, sub_ [(0, 72), (1, 96), (2, 56)]⟩
  ·rintro end_1 hg
   replace hg : g_law19_ExceptionEnds.j1 y_4 q end_1 = some r := hg
   show awp _ _ _ _ (mk _ _ _)
   unfold g_law19_ExceptionEnds.j1 at hg
   refine awp_seq ?_
   refine sr_ 3 19 mk_U ?_
   refine go_ ?_
   refine ch_n fun hU => ?_
   refine awp_block ?_
   refine lp_ (fun (n_2 : Int) => mk [(6, .ptr 0 0), (7, .ptr 1 0), (8, .sl 7 (encL api_Exception.enc y_4.1)), (10, .val (.int .i64 end_1)), (12, .val (.int .i64 n_2))] [(0, .box [.row 2, .val (.int .i64 1)] 36), (1, .box [.val (.int .i64 1), .val (.int .i64 0)] 24), (2, .row 3 1 (encL eI ([51, 52, 53] : List Int)))] 3) hg (sub_ [(0, 0), (1, 1), (2, 2)]) ?_
   rintro n_2 m2 o2 hg hn2
   replace hg : g_law19_ExceptionEnds.l2 y_4 end_1 n_2 = some o2 := hg
   show awp _ _ _ _ (mk _ _ _)
   unfold g_law19_ExceptionEnds.l2 at hg
   refine awp_seq ?_
   refine sr_ 3 27 mk_U ?_
   refine go_ ?_
   refine ch_n fun hU => ?_
   refine cg_ rfl hg (fun h19 hg => ?_) fun h19 hg => ?_
   ·refine awp_skip ?_
    repeat first | refine st_ ?_ | refine sn_ ?_
    refine awp_seq ?_
    refine awp_block ?_
    refine sr_ 27 35 hU ?_
    refine go_ ?_
    refine ch_n fun hU => ?_
    refine awp_seq ?_
    refine sr_ 35 43 hU ?_
    refine go_ ?_
    refine ch_n fun hU => ?_
    refine awp_block ?_
    refine lp_ (fun ((covered_3, i_3) : Bool × Int) => mk [(6, .ptr 0 0), (7, .ptr 1 0), (8, .sl 7 (encL api_Exception.enc y_4.1)), (10, .val (.int .i64 end_1)), (12, .val (.int .i64 n_2)), (13, .val (.bool covered_3)), (14, .val (.int .i64 i_3))] [(0, .box [.row 2, .val (.int .i64 1)] 36), (1, .box [.val (.int .i64 1), .val (.int .i64 0)] 24), (2, .row 3 1 (encL eI ([51, 52, 53] : List Int)))] 3) hg (sub_ [(0, 0), (1, 1), (2, 2)]) ?_
    rintro ⟨covered_3, i_3⟩ m3 o3 hg hn3
    replace hg : g_law19_ExceptionEnds.l3 y_4 end_1 n_2 covered_3 i_3 = some o3 := hg
    show awp _ _ _ _ (mk _ _ _)
    unfold g_law19_ExceptionEnds.l3 at hg
    refine awp_seq ?_
    refine sr_ 3 35 mk_U ?_
    refine go_ ?_
    refine ch_n fun hU => ?_
    refine cg_ rfl hg (fun h23 hg => ?_) fun h23 hg => ?_
    ·refine awp_skip ?_
     repeat first | refine st_ ?_ | refine sn_ ?_
     refine awp_cut (ι := Bool) (fun (covered_4 : Bool) => mk [(6, .ptr 0 0), (7, .ptr 1 0), (8, .sl 7 (encL api_Exception.enc y_4.1)), (10, .val (.int .i64 end_1)), (12, .val (.int .i64 n_2)), (13, .val (.bool covered_4)), (14, .val (.int .i64 i_3))] [(0, .box [.row 2, .val (.int .i64 1)] 36), (1, .box [.val (.int .i64 1), .val (.int .i64 0)] 24), (2, .row 3 1 (encL eI ([51, 52, 53] : List Int)))] 3) (fun (covered_4 : Bool) => g_law19_ExceptionEnds.j4 i_3 covered_4 = some o3) ?_ ?_
     ·refine awp_block ?_
      refine awp_draw (sys _ _ []) (by kernel_rfl) [0, 1, 3, 3, 15, 31, 3, 127, 255, 511, 511, 2047, 4095, 511, 511, 32767, 65535, 131071, 262143] 35 187 hU rfl rfl (by kernel_rfl) ?_
      refine go_ ?_
      rcases bc_ hg with ⟨h24, hg⟩ | ⟨h24, hg⟩
      ·refine go_ ?_
       refine ch_n fun hU => ?_
       exact ⟨true, hg, sub_ [(0, 0), (1, 1), (2, 2)]⟩
      ·refine go_ ?_
       obtain ⟨e, he, hg⟩ := bind_some hg
       refine go_ ?_
       refine c0_ (gdv_t rfl rfl h24) rfl (r_loadEA ty29 (enc_cells api_Exception.enc_len (getI_at he) (o := 0) (m := 7) (cs := [.int .i64 e.Use.Alg, .int .i64 e.Use.Bits, .int .i64 e.Purpose, .str e.Endpoint, .int .i64 e.Days.From, .int .i64 e.Days.To, .sl 2 (encL api_Seal.enc e.Seals)]) rfl (by decide) rfl) (enc_cells_le api_Exception.enc_len (getI_at he) (o := 0) (m := 7) (by decide) rfl)) rfl rfl ?_
       refine go_ ?_
       obtain ⟨y_6, hy_6, hg⟩ := bind_some hg
       refine cb_ [2] [] [] true (w_exception_Valid _ _ _ hy_6) ?_
       refine go_ ?_
       rcases bc_ hg with ⟨h26, hg⟩ | ⟨h26, hg⟩
       ·refine go_ ?_
        refine c0_ (gdv_t rfl rfl h26) rfl (r_loadEA ty29 (enc_cells api_Exception.enc_len (getI_at he) (o := 0) (m := 7) (cs := [.int .i64 e.Use.Alg, .int .i64 e.Use.Bits, .int .i64 e.Purpose, .str e.Endpoint, .int .i64 e.Days.From, .int .i64 e.Days.To, .sl 2 (encL api_Seal.enc e.Seals)]) rfl (by decide) rfl) (enc_cells_le api_Exception.enc_len (getI_at he) (o := 0) (m := 7) (by decide) rfl)) rfl rfl ?_
        refine go_ ?_
        obtain ⟨y_7, hy_7, hg⟩ := bind_some hg
        refine ca_ (w_exception_Covers _ _ _ _ _ _ hy_7) ?_
        refine go_ ?_
        refine ch_n fun hU => ?_
        exact ⟨y_7, hg, sub_ [(0, 0), (1, 1), (2, 2)]⟩
       ·refine go_ ?_
        refine ch_n fun hU => ?_
        exact ⟨false, hg, sub_ [(0, 0), (1, 1), (2, 2)]⟩
     ·rintro covered_4 hg
      replace hg : g_law19_ExceptionEnds.j4 i_3 covered_4 = some o3 := hg
      show awp _ _ _ _ (mk _ _ _)
      unfold g_law19_ExceptionEnds.j4 at hg
      refine awp_region (sys _ _ []) 3 27 mk_U rfl rfl ?_
      refine go_ ?_
      refine ch_n fun hU => ?_
      obtain rfl := Option.some.inj hg
      exact ⟨((covered_4, W (i_3 + 1)), m3), Nat.lt_succ_self _, hn3, sub_ [(0, 0), (1, 1), (2, 2)]⟩
    ·refine awp_exit ?_
     repeat first | refine st_ ?_ | refine sn_ ?_
     replace hg := leave hg hn3
     refine sr_ 35 75 hU ?_
     refine go_ ?_
     refine c0_ rfl rfl (r_bneq und4) rfl rfl ?_
     refine ch_n fun hU => ?_
     refine cg_ rfl hg (fun h31 hg => ?_) fun h31 hg => ?_
     ·refine awp_seq ?_
      refine awp_region (sys _ _ []) 75 83 hU rfl rfl ?_
      refine go_ ?_
      refine ch_n fun hU => ?_
      refine aw_r ?_
      replace hg := leave hg hn2
      obtain rfl := Option.some.inj hg
      exact fin_ [] ⟨rfl, rfl⟩
     ·refine awp_skip ?_
      repeat first | refine st_ ?_ | refine sn_ ?_
      refine awp_region (sys _ _ []) 75 99 hU rfl rfl ?_
      refine go_ ?_
      refine ch_n fun hU => ?_
      obtain rfl := Option.some.inj hg
      exact ⟨(W (n_2 + 1), m2), Nat.lt_succ_self _, hn2, sub_ [(0, 0), (1, 1), (2, 2)]⟩
   ·refine awp_exit ?_
    repeat first | refine st_ ?_ | refine sn_ ?_
    replace hg := leave hg hn2
    refine sr_ 27 43 hU ?_
    obtain ⟨y_8, hy_8, hg⟩ := bind_some hg
    refine ca_ (w_law19_awake _ hy_8) ?_
    refine go_ ?_
    refine ch_n fun hU => ?_
    refine aw_r ?_
    obtain rfl := Option.some.inj hg
    exact fin_ [] ⟨rfl, rfl⟩
end Go.Proofs.Ytmihjbejflcgkaa
