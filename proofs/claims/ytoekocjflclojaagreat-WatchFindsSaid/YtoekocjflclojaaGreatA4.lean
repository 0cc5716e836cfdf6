/- The program computes the plain functions. -/
import Derived.Test.YtoekocjflclojaaGreatT1
import Derived.Test.YtoekocjflclojaaGreatA1
import Derived.Test.YtoekocjflclojaaGreatA2
import Derived.Test.YtoekocjflclojaaGreatA3
set_option linter.unusedVariables false
set_option linter.unusedSimpArgs false
set_option maxRecDepth 100000
set_option maxHeartbeats 1600000
namespace Go.Proofs.YtoekocjflclojaaGreat
open Go.RowKit
theorem w_ref14_base (at' : api_Finding) (r : api_Finding × Int) (hg : g_ref14_base at' = some r) : Fn Tryz.prog 31 0 [.agg (api_Finding.dv at')] [] (fun d b => d = .tup [.agg (api_Finding.dv r.1), .val (.int .i64 r.2)] ∧ b = []) := by
 unfold g_ref14_base at hg
 refine Fn.of Tryz.func31 rfl rfl rfl fun w0 I ρ0 => ?_
 show awp _ ⟨w0, I, ρ0, 0, 0, 28⟩ _ _ _
 refine sr_ 0 24 mk_U ?_
 refine go_ ?_
 refine ch_n fun hU => ?_
 refine sr_ 24 144 hU ?_
 refine go_ ?_
 refine c0_ rfl rfl (.build (r := [.val (.int .i64 at'.Source), .val (.string at'.Host), .val (.int .i64 at'.Machine), .val (.int .i64 at'.Day), .val (.int .i64 at'.Confidence), .val (.int .i64 4), .val (.string at'.Subject), .val (.int .i64 0), .val (.int .i64 0), .val (.int .i64 1), .val (.string (⟨#[]⟩ : ByteArray))]) und44 pl44 z44 (by kernel_rfl) rfl) rfl rfl ?_
 refine go_ ?_
 refine ch_n fun hU => ?_
 refine awp_seq ?_
 refine sr_ 144 168 hU ?_
 refine go_ ?_
 obtain ⟨y, hy, hg⟩ := bind_some hg
 refine ca_ (w_ref14_Check _ _ hy) ?_
 refine go_ ?_
 refine ch_n fun hU => ?_
 refine sr_ 168 184 hU ?_
 refine go_ ?_
 refine ch_n fun hU => ?_
 refine cg_ rfl hg (fun h5 hg => ?_) fun h5 hg => ?_
 ·refine awp_seq ?_
  refine awp_region (sys _ _ []) 184 216 hU rfl rfl ?_
  refine c0_ rfl rfl (.build (r := [.val (.int .i64 0), .val (.string (⟨#[]⟩ : ByteArray)), .val (.int .i64 0), .val (.int .i64 0), .val (.int .i64 0), .val (.int .i64 0), .val (.string (⟨#[]⟩ : ByteArray)), .val (.int .i64 0), .val (.int .i64 0), .val (.int .i64 0), .val (.string (⟨#[]⟩ : ByteArray))]) und44 pl44 z44 (by kernel_rfl) rfl) rfl rfl ?_
  refine go_ ?_
  refine ch_n fun hU => ?_
  refine aw_r ?_
  obtain rfl := Option.some.inj hg
  exact fin_ [] ⟨rfl, rfl⟩
 ·refine awp_skip ?_
  repeat first | refine st_ ?_ | refine sn_ ?_
  refine sr_ 184 216 hU ?_
  refine go_ ?_
  refine ch_n fun hU => ?_
  refine sr_ 216 240 hU ?_
  refine go_ ?_
  refine ch_n fun hU => ?_
  refine aw_r ?_
  obtain rfl := Option.some.inj hg
  exact fin_ [] ⟨rfl, rfl⟩
theorem w_ref06_Word (s : ByteArray) (r : Bool) (hg : g_ref06_Word s = some r) : Fn Tryz.prog 50 0 [.val (.string s)] [] (fun d b => d = .val (.bool r) ∧ b = []) := by
 unfold g_ref06_Word at hg
 refine Fn.of Tryz.func50 rfl rfl rfl fun w0 I ρ0 => ?_
 show awp _ ⟨w0, I, ρ0, 0, 0, 56⟩ _ _ _
 refine sr_ 0 8 mk_U ?_
 refine go_ ?_
 refine ch_n fun hU => ?_
 refine awp_seq ?_
 refine awp_cut (ι := Bool) (fun (x12_1 : Bool) => mk [(0, .val (.string s)), (12, .val (.bool x12_1))] [] 0) (fun (x12_1 : Bool) => g_ref06_Word.j1 s x12_1 = some r) ?_ ?_
 ·refine awp_region (sys _ _ []) 8 72 hU rfl rfl ?_
  refine go_ ?_
  refine c0_ rfl rfl (r_lenT und9) rfl rfl ?_
  refine go_ ?_
  rcases bc_ hg with ⟨h2, hg⟩ | ⟨h2, hg⟩
  ·refine go_ ?_
   refine ch_n fun hU => ?_
   exact ⟨true, hg, sub_ []⟩
  ·refine go_ ?_
   refine c0_ (gdv_t rfl rfl h2) rfl (r_lenT und9) rfl rfl ?_
   refine go_ ?_
   refine ch_n fun hU => ?_
   exact ⟨decide (32 < (s.size : Int)), hg, sub_ []⟩
 ·rintro x12_1 hg
  replace hg : g_ref06_Word.j1 s x12_1 = some r := hg
  show awp _ _ _ _ (mk _ _ _)
  unfold g_ref06_Word.j1 at hg
  refine cg_ rfl hg (fun h5 hg => ?_) fun h5 hg => ?_
  ·refine awp_seq ?_
   refine awp_region (sys _ _ []) 0 8 mk_U rfl rfl ?_
   refine go_ ?_
   refine ch_n fun hU => ?_
   refine aw_r ?_
   obtain rfl := Option.some.inj hg
   exact fin_ [] ⟨rfl, rfl⟩
  ·refine awp_skip ?_
   repeat first | refine st_ ?_ | refine sn_ ?_
   refine awp_seq ?_
   refine sr_ 0 8 mk_U ?_
   refine go_ ?_
   refine ch_n fun hU => ?_
   refine awp_block ?_
   refine lp_ (fun (i_2 : Int) => mk [(0, .val (.string s)), (3, .val (.int .i64 i_2))] [] 0) hg (sub_ []) ?_
   rintro i_2 m2 o2 hg hn2
   replace hg : g_ref06_Word.l2 s i_2 = some o2 := hg
   show awp _ _ _ _ (mk _ _ _)
   unfold g_ref06_Word.l2 at hg
   refine awp_seq ?_
   refine sr_ 0 32 mk_U ?_
   refine go_ ?_
   refine c0_ rfl rfl (r_lenT und9) rfl rfl ?_
   refine go_ ?_
   refine ch_n fun hU => ?_
   refine cg_ rfl hg (fun h9 hg => ?_) fun h9 hg => ?_
   ·refine awp_skip ?_
    repeat first | refine st_ ?_ | refine sn_ ?_
    refine awp_seq ?_
    refine awp_block ?_
    refine sr_ 32 64 hU ?_
    refine go_ ?_
    obtain ⟨c, hc, hg⟩ := bind_some hg
    refine c0_ rfl rfl (r_idxT und9 hc) rfl rfl ?_
    refine go_ ?_
    refine ch_n fun hU => ?_
    refine awp_cut (ι := Bool) (fun (x55_3 : Bool) => mk [(0, .val (.string s)), (3, .val (.int .i64 i_2)), (55, .val (.bool x55_3))] [] 0) (fun (x55_3 : Bool) => g_ref06_Word.j3 i_2 x55_3 = some o2) ?_ ?_
    ·refine awp_region (sys _ _ []) 64 336 hU rfl rfl ?_
     refine go_ ?_
     rcases bc_ hg with ⟨h11, hg⟩ | ⟨h11, hg⟩
     ·refine go_ ?_
      rcases bc_ hg with ⟨h12, hg⟩ | ⟨h12, hg⟩
      ·refine go_ ?_
       rcases bc_ hg with ⟨h13, hg⟩ | ⟨h13, hg⟩
       ·refine go_ ?_
        rcases bc_ hg with ⟨h14, hg⟩ | ⟨h14, hg⟩
        ·refine go_ ?_
         rcases bc_ hg with ⟨h15, hg⟩ | ⟨h15, hg⟩
         ·refine go_ ?_
          refine ch_n fun hU => ?_
          exact ⟨!decide ((c.toNat : Int) = 46), hg, sub_ []⟩
         ·refine go_ ?_
          refine ch_n fun hU => ?_
          exact ⟨false, hg, sub_ []⟩
        ·refine go_ ?_
         refine ch_n fun hU => ?_
         exact ⟨false, hg, sub_ []⟩
       ·refine go_ ?_
        rcases bc_ hg with ⟨h19, hg⟩ | ⟨h19, hg⟩
        ·refine go_ ?_
         rcases bc_ hg with ⟨h20, hg⟩ | ⟨h20, hg⟩
         ·refine go_ ?_
          rcases bc_ hg with ⟨h21, hg⟩ | ⟨h21, hg⟩
          ·refine go_ ?_
           refine ch_n fun hU => ?_
           exact ⟨!decide ((c.toNat : Int) = 46), hg, sub_ []⟩
          ·refine go_ ?_
           refine ch_n fun hU => ?_
           exact ⟨false, hg, sub_ []⟩
         ·refine go_ ?_
          refine ch_n fun hU => ?_
          exact ⟨false, hg, sub_ []⟩
        ·refine go_ ?_
         refine ch_n fun hU => ?_
         exact ⟨false, hg, sub_ []⟩
      ·refine go_ ?_
       rcases bc_ hg with ⟨h26, hg⟩ | ⟨h26, hg⟩
       ·refine go_ ?_
        rcases bc_ hg with ⟨h27, hg⟩ | ⟨h27, hg⟩
        ·refine go_ ?_
         rcases bc_ hg with ⟨h28, hg⟩ | ⟨h28, hg⟩
         ·refine go_ ?_
          rcases bc_ hg with ⟨h29, hg⟩ | ⟨h29, hg⟩
          ·refine go_ ?_
           refine ch_n fun hU => ?_
           exact ⟨!decide ((c.toNat : Int) = 46), hg, sub_ []⟩
          ·refine go_ ?_
           refine ch_n fun hU => ?_
           exact ⟨false, hg, sub_ []⟩
         ·refine go_ ?_
          refine ch_n fun hU => ?_
          exact ⟨false, hg, sub_ []⟩
        ·refine go_ ?_
         rcases bc_ hg with ⟨h33, hg⟩ | ⟨h33, hg⟩
         ·refine go_ ?_
          rcases bc_ hg with ⟨h34, hg⟩ | ⟨h34, hg⟩
          ·refine go_ ?_
           rcases bc_ hg with ⟨h35, hg⟩ | ⟨h35, hg⟩
           ·refine go_ ?_
            refine ch_n fun hU => ?_
            exact ⟨!decide ((c.toNat : Int) = 46), hg, sub_ []⟩
           ·refine go_ ?_
            refine ch_n fun hU => ?_
            exact ⟨false, hg, sub_ []⟩
          ·refine go_ ?_
           refine ch_n fun hU => ?_
           exact ⟨false, hg, sub_ []⟩
         ·refine go_ ?_
          refine ch_n fun hU => ?_
          exact ⟨false, hg, sub_ []⟩
       ·refine go_ ?_
        refine ch_n fun hU => ?_
        exact ⟨false, hg, sub_ []⟩
     ·refine go_ ?_
      rcases bc_ hg with ⟨h41, hg⟩ | ⟨h41, hg⟩
      ·refine go_ ?_
       rcases bc_ hg with ⟨h42, hg⟩ | ⟨h42, hg⟩
       ·refine go_ ?_
        rcases bc_ hg with ⟨h43, hg⟩ | ⟨h43, hg⟩
        ·refine go_ ?_
         rcases bc_ hg with ⟨h44, hg⟩ | ⟨h44, hg⟩
         ·refine go_ ?_
          rcases bc_ hg with ⟨h45, hg⟩ | ⟨h45, hg⟩
          ·refine go_ ?_
           refine ch_n fun hU => ?_
           exact ⟨!decide ((c.toNat : Int) = 46), hg, sub_ []⟩
          ·refine go_ ?_
           refine ch_n fun hU => ?_
           exact ⟨false, hg, sub_ []⟩
         ·refine go_ ?_
          refine ch_n fun hU => ?_
          exact ⟨false, hg, sub_ []⟩
        ·refine go_ ?_
         rcases bc_ hg with ⟨h49, hg⟩ | ⟨h49, hg⟩
         ·refine go_ ?_
          rcases bc_ hg with ⟨h50, hg⟩ | ⟨h50, hg⟩
          ·refine go_ ?_
           rcases bc_ hg with ⟨h51, hg⟩ | ⟨h51, hg⟩
           ·refine go_ ?_
            refine ch_n fun hU => ?_
            exact ⟨!decide ((c.toNat : Int) = 46), hg, sub_ []⟩
           ·refine go_ ?_
            refine ch_n fun hU => ?_
            exact ⟨false, hg, sub_ []⟩
          ·refine go_ ?_
           refine ch_n fun hU => ?_
           exact ⟨false, hg, sub_ []⟩
         ·refine go_ ?_
          refine ch_n fun hU => ?_
          exact ⟨false, hg, sub_ []⟩
       ·refine go_ ?_
        rcases bc_ hg with ⟨h56, hg⟩ | ⟨h56, hg⟩
        ·refine go_ ?_
         rcases bc_ hg with ⟨h57, hg⟩ | ⟨h57, hg⟩
         ·refine go_ ?_
          rcases bc_ hg with ⟨h58, hg⟩ | ⟨h58, hg⟩
          ·refine go_ ?_
           rcases bc_ hg with ⟨h59, hg⟩ | ⟨h59, hg⟩
           ·refine go_ ?_
            refine ch_n fun hU => ?_
            exact ⟨!decide ((c.toNat : Int) = 46), hg, sub_ []⟩
           ·refine go_ ?_
            refine ch_n fun hU => ?_
            exact ⟨false, hg, sub_ []⟩
          ·refine go_ ?_
           refine ch_n fun hU => ?_
           exact ⟨false, hg, sub_ []⟩
         ·refine go_ ?_
          rcases bc_ hg with ⟨h63, hg⟩ | ⟨h63, hg⟩
          ·refine go_ ?_
           rcases bc_ hg with ⟨h64, hg⟩ | ⟨h64, hg⟩
           ·refine go_ ?_
            rcases bc_ hg with ⟨h65, hg⟩ | ⟨h65, hg⟩
            ·refine go_ ?_
             refine ch_n fun hU => ?_
             exact ⟨!decide ((c.toNat : Int) = 46), hg, sub_ []⟩
            ·refine go_ ?_
             refine ch_n fun hU => ?_
             exact ⟨false, hg, sub_ []⟩
           ·refine go_ ?_
            refine ch_n fun hU => ?_
            exact ⟨false, hg, sub_ []⟩
          ·refine go_ ?_
           refine ch_n fun hU => ?_
           exact ⟨false, hg, sub_ []⟩
        ·refine go_ ?_
         refine ch_n fun hU => ?_
         exact ⟨false, hg, sub_ []⟩
      ·refine go_ ?_
       refine ch_n fun hU => ?_
       exact ⟨false, hg, sub_ []⟩
    ·rintro x55_3 hg
     replace hg : g_ref06_Word.j3 i_2 x55_3 = some o2 := hg
     show awp _ _ _ _ (mk _ _ _)
     unfold g_ref06_Word.j3 at hg
     refine cg_ rfl hg (fun h72 hg => ?_) fun h72 hg => ?_
     ·refine awp_seq ?_
      refine awp_region (sys _ _ []) 0 8 mk_U rfl rfl ?_
      refine go_ ?_
      refine ch_n fun hU => ?_
      refine aw_r ?_
      replace hg := leave hg hn2
      obtain rfl := Option.some.inj hg
      exact fin_ [] ⟨rfl, rfl⟩
     ·refine awp_skip ?_
      repeat first | refine st_ ?_ | refine sn_ ?_
      refine awp_region (sys _ _ []) 0 24 mk_U rfl rfl ?_
      refine go_ ?_
      refine ch_n fun hU => ?_
      obtain rfl := Option.some.inj hg
      exact ⟨(W (i_2 + 1), m2), Nat.lt_succ_self _, hn2, sub_ []⟩
   ·refine awp_exit ?_
    repeat first | refine st_ ?_ | refine sn_ ?_
    replace hg := leave hg hn2
    refine sr_ 32 40 hU ?_
    refine go_ ?_
    refine ch_n fun hU => ?_
    refine aw_r ?_
    obtain rfl := Option.some.inj hg
    exact fin_ [] ⟨rfl, rfl⟩
theorem w_ref02_use (alg : Int) (bits : Int) (r : api_Use) (hg : g_ref02_use alg bits = some r) : Fn Tryz.prog 91 0 [.val (.int .i64 alg), .val (.int .i64 bits)] [] (fun d b => d = .agg [.val (.int .i64 r.Alg), .val (.int .i64 r.Bits)] ∧ b = []) := by
 unfold g_ref02_use at hg
 refine Fn.of Tryz.func91 rfl rfl rfl fun w0 I ρ0 => ?_
 show awp _ ⟨w0, I, ρ0, 0, 0, 8⟩ _ _ _
 refine sr_ 0 8 mk_U ?_
 refine go_ ?_
 refine ch_n fun hU => ?_
 refine sr_ 8 40 hU ?_
 refine go_ ?_
 refine c0_ rfl rfl (.build (r := [.val (.int .i64 alg), .val (.int .i64 bits)]) und42 pl42 z42 (by kernel_rfl) rfl) rfl rfl ?_
 refine go_ ?_
 refine ch_n fun hU => ?_
 refine aw_r ?_
 obtain rfl := Option.some.inj hg
 exact fin_ [] ⟨rfl, rfl⟩
theorem w_ref02_suite (code : Int) (name : ByteArray) (exchange : api_Use) (sign : api_Use) (cipher : api_Use) (mac : api_Use) (least : Int) (most : Int) (r : api_Suite) (hg : g_ref02_suite code name exchange sign cipher mac least most = some r) : Fn Tryz.prog 92 0 [.val (.int .i64 code), .val (.string name), .agg [.val (.int .i64 exchange.Alg), .val (.int .i64 exchange.Bits)], .agg [.val (.int .i64 sign.Alg), .val (.int .i64 sign.Bits)], .agg [.val (.int .i64 cipher.Alg), .val (.int .i64 cipher.Bits)], .agg [.val (.int .i64 mac.Alg), .val (.int .i64 mac.Bits)], .val (.int .i64 least), .val (.int .i64 most)] [] (fun d b => d = .agg (api_Suite.dv r) ∧ b = []) := by
 unfold g_ref02_suite at hg
 refine Fn.of Tryz.func92 rfl rfl rfl fun w0 I ρ0 => ?_
 show awp _ ⟨w0, I, ρ0, 0, 0, 26⟩ _ _ _
 refine sr_ 0 40 mk_U ?_
 refine go_ ?_
 refine ch_n fun hU => ?_
 refine sr_ 40 120 hU ?_
 refine go_ ?_
 refine c0_ rfl rfl (.build (r := [.val (.int .i64 code), .val (.string name), .val (.int .i64 exchange.Alg), .val (.int .i64 exchange.Bits), .val (.int .i64 sign.Alg), .val (.int .i64 sign.Bits), .val (.int .i64 cipher.Alg), .val (.int .i64 cipher.Bits), .val (.int .i64 mac.Alg), .val (.int .i64 mac.Bits), .val (.int .i64 least), .val (.int .i64 most)]) und110 pl110 z110 (by kernel_rfl) rfl) rfl rfl ?_
 refine go_ ?_
 refine ch_n fun hU => ?_
 refine aw_r ?_
 obtain rfl := Option.some.inj hg
 exact fin_ [] ⟨rfl, rfl⟩
theorem w_ref02_Suites  (r : (List api_Suite)) (hg : g_ref02_Suites = some r) : Fn Tryz.prog 73 0 [] [] (fun d b => d = .sl 12 (encL api_Suite.enc r) ∧ b = []) := by
 unfold g_ref02_Suites at hg
 refine Fn.of Tryz.func73 rfl rfl rfl fun w0 I ρ0 => ?_
 show awp _ ⟨w0, I, ρ0, 0, 0, 110⟩ _ _ _
 refine sr_ 0 8 mk_U ?_
 refine go_ ?_
 refine ch_n fun hU => ?_
 refine sr_ 8 80 hU ?_
 obtain ⟨y, hy, hg⟩ := bind_some hg
 refine ca_ (w_ref02_use _ _ _ hy) ?_
 obtain ⟨y_2, hy_2, hg⟩ := bind_some hg
 refine ca_ (w_ref02_use _ _ _ hy_2) ?_
 refine c0_ rfl rfl (.build (r := [.val (.int .i64 0), .val (.int .i64 0)]) und42 pl42 z42 (by kernel_rfl) rfl) rfl rfl ?_
 refine go_ ?_
 refine ch_n fun hU => ?_
 refine sr_ 80 128 hU ?_
 obtain ⟨y_3, hy_3, hg⟩ := bind_some hg
 refine ca_ (w_ref02_use _ _ _ hy_3) ?_
 obtain ⟨y_4, hy_4, hg⟩ := bind_some hg
 refine ca_ (w_ref02_use _ _ _ hy_4) ?_
 refine go_ ?_
 refine ch_n fun hU => ?_
 refine sr_ 128 200 hU ?_
 obtain ⟨y_5, hy_5, hg⟩ := bind_some hg
 refine ca_ (w_ref02_use _ _ _ hy_5) ?_
 obtain ⟨y_6, hy_6, hg⟩ := bind_some hg
 refine ca_ (w_ref02_use _ _ _ hy_6) ?_
 obtain ⟨y_7, hy_7, hg⟩ := bind_some hg
 refine ca_ (w_ref02_use _ _ _ hy_7) ?_
 refine go_ ?_
 refine ch_n fun hU => ?_
 refine sr_ 200 296 hU ?_
 obtain ⟨y_8, hy_8, hg⟩ := bind_some hg
 refine ca_ (w_ref02_use _ _ _ hy_8) ?_
 obtain ⟨y_9, hy_9, hg⟩ := bind_some hg
 refine ca_ (w_ref02_use _ _ _ hy_9) ?_
 obtain ⟨y_10, hy_10, hg⟩ := bind_some hg
 refine ca_ (w_ref02_use _ _ _ hy_10) ?_
 obtain ⟨y_11, hy_11, hg⟩ := bind_some hg
 refine ca_ (w_ref02_use _ _ _ hy_11) ?_
 refine go_ ?_
 refine ch_n fun hU => ?_
 refine sr_ 296 344 hU ?_
 obtain ⟨y_12, hy_12, hg⟩ := bind_some hg
 refine ca_ (w_ref02_use _ _ _ hy_12) ?_
 obtain ⟨y_13, hy_13, hg⟩ := bind_some hg
 refine ca_ (w_ref02_use _ _ _ hy_13) ?_
 refine go_ ?_
 refine ch_n fun hU => ?_
 refine awp_seq ?_
 refine awp_draw (sys _ _ []) (by kernel_rfl) [0, 0, 0, 0, 15, 0, 0, 0, 0, 511, 0, 0, 0, 0, 16383, 32767, 65535, 0, 0, 524287, 1048575, 0, 0, 0, 16777215, 0, 0, 0, 0, 536870911, 1073741823, 0, 0, 0, 17179869183, 0, 0, 0, 0, 549755813887, 0, 1099511627775, 3298534883327, 0, 17592186044415, 0, 0, 0, 0, 562949953421311, 1125899906842623, 2251799813685247, 0, 0, 18014398509481983, 0, 0, 0, 0, 576460752303423487, 0, 0, 0, 0, 18446744073709551615, 0, 0, 0, 0, 590295810358705651711, 0, 0, 0, 0, 18889465931478580854783, 37778931862957161709567, 0, 0, 0, 604462909807314587353087, 1208925819614629174706175, 2417851639229258349412351] 344 1000 hU rfl rfl (by kernel_rfl) ?_
 refine go_ ?_
 obtain ⟨y_14, hy_14, hg⟩ := bind_some hg
 refine ca_ (w_ref02_suite _ _ _ _ _ _ _ _ _ hy_14) ?_
 refine go_ ?_
 obtain ⟨y_15, hy_15, hg⟩ := bind_some hg
 refine ca_ (w_ref02_suite _ _ _ _ _ _ _ _ _ hy_15) ?_
 refine go_ ?_
 obtain ⟨y_16, hy_16, hg⟩ := bind_some hg
 refine ca_ (w_ref02_suite _ _ _ _ _ _ _ _ _ hy_16) ?_
 obtain ⟨y_17, hy_17, hg⟩ := bind_some hg
 refine ca_ (w_ref02_use _ _ _ hy_17) ?_
 obtain ⟨y_18, hy_18, hg⟩ := bind_some hg
 refine ca_ (w_ref02_use _ _ _ hy_18) ?_
 refine go_ ?_
 obtain ⟨y_19, hy_19, hg⟩ := bind_some hg
 refine ca_ (w_ref02_suite _ _ _ _ _ _ _ _ _ hy_19) ?_
 obtain ⟨y_20, hy_20, hg⟩ := bind_some hg
 refine ca_ (w_ref02_use _ _ _ hy_20) ?_
 refine go_ ?_
 obtain ⟨y_21, hy_21, hg⟩ := bind_some hg
 refine ca_ (w_ref02_suite _ _ _ _ _ _ _ _ _ hy_21) ?_
 refine go_ ?_
 obtain ⟨y_22, hy_22, hg⟩ := bind_some hg
 refine ca_ (w_ref02_suite _ _ _ _ _ _ _ _ _ hy_22) ?_
 obtain ⟨y_23, hy_23, hg⟩ := bind_some hg
 refine ca_ (w_ref02_use _ _ _ hy_23) ?_
 refine go_ ?_
 obtain ⟨y_24, hy_24, hg⟩ := bind_some hg
 refine ca_ (w_ref02_suite _ _ _ _ _ _ _ _ _ hy_24) ?_
 refine go_ ?_
 obtain ⟨y_25, hy_25, hg⟩ := bind_some hg
 refine ca_ (w_ref02_suite _ _ _ _ _ _ _ _ _ hy_25) ?_
 refine go_ ?_
 obtain ⟨y_26, hy_26, hg⟩ := bind_some hg
 refine ca_ (w_ref02_use _ _ _ hy_26) ?_
 obtain ⟨y_27, hy_27, hg⟩ := bind_some hg
 refine ca_ (w_ref02_use _ _ _ hy_27) ?_
 refine go_ ?_
 obtain ⟨y_28, hy_28, hg⟩ := bind_some hg
 refine ca_ (w_ref02_suite _ _ _ _ _ _ _ _ _ hy_28) ?_
 refine go_ ?_
 obtain ⟨y_29, hy_29, hg⟩ := bind_some hg
 refine ca_ (w_ref02_suite _ _ _ _ _ _ _ _ _ hy_29) ?_
 obtain ⟨y_30, hy_30, hg⟩ := bind_some hg
 refine ca_ (w_ref02_use _ _ _ hy_30) ?_
 obtain ⟨y_31, hy_31, hg⟩ := bind_some hg
 refine ca_ (w_ref02_use _ _ _ hy_31) ?_
 refine go_ ?_
 obtain ⟨y_32, hy_32, hg⟩ := bind_some hg
 refine ca_ (w_ref02_suite _ _ _ _ _ _ _ _ _ hy_32) ?_
 refine go_ ?_
 obtain ⟨y_33, hy_33, hg⟩ := bind_some hg
 refine ca_ (w_ref02_suite _ _ _ _ _ _ _ _ _ hy_33) ?_
 refine go_ ?_
 obtain ⟨y_34, hy_34, hg⟩ := bind_some hg
 refine ca_ (w_ref02_suite _ _ _ _ _ _ _ _ _ hy_34) ?_
 refine go_ ?_
 obtain ⟨y_35, hy_35, hg⟩ := bind_some hg
 refine ca_ (w_ref02_suite _ _ _ _ _ _ _ _ _ hy_35) ?_
 refine go_ ?_
 obtain ⟨y_36, hy_36, hg⟩ := bind_some hg
 refine ca_ (w_ref02_suite _ _ _ _ _ _ _ _ _ hy_36) ?_
 obtain ⟨y_37, hy_37, hg⟩ := bind_some hg
 refine ca_ (w_ref02_use _ _ _ hy_37) ?_
 refine go_ ?_
 obtain ⟨y_38, hy_38, hg⟩ := bind_some hg
 refine ca_ (w_ref02_suite _ _ _ _ _ _ _ _ _ hy_38) ?_
 refine c0_ rfl rfl (r_buildFull sl125 z110 (by decide) rfl rfl rfl rfl ck110 (cs := [.int .i64 y_14.Code, .str y_14.Name, .int .i64 y_14.Exchange.Alg, .int .i64 y_14.Exchange.Bits, .int .i64 y_14.Sign.Alg, .int .i64 y_14.Sign.Bits, .int .i64 y_14.Cipher.Alg, .int .i64 y_14.Cipher.Bits, .int .i64 y_14.Mac.Alg, .int .i64 y_14.Mac.Bits, .int .i64 y_14.Least, .int .i64 y_14.Most, .int .i64 y_15.Code, .str y_15.Name, .int .i64 y_15.Exchange.Alg, .int .i64 y_15.Exchange.Bits, .int .i64 y_15.Sign.Alg, .int .i64 y_15.Sign.Bits, .int .i64 y_15.Cipher.Alg, .int .i64 y_15.Cipher.Bits, .int .i64 y_15.Mac.Alg, .int .i64 y_15.Mac.Bits, .int .i64 y_15.Least, .int .i64 y_15.Most, .int .i64 y_16.Code, .str y_16.Name, .int .i64 y_16.Exchange.Alg, .int .i64 y_16.Exchange.Bits, .int .i64 y_16.Sign.Alg, .int .i64 y_16.Sign.Bits, .int .i64 y_16.Cipher.Alg, .int .i64 y_16.Cipher.Bits, .int .i64 y_16.Mac.Alg, .int .i64 y_16.Mac.Bits, .int .i64 y_16.Least, .int .i64 y_16.Most, .int .i64 y_19.Code, .str y_19.Name, .int .i64 y_19.Exchange.Alg, .int .i64 y_19.Exchange.Bits, .int .i64 y_19.Sign.Alg, .int .i64 y_19.Sign.Bits, .int .i64 y_19.Cipher.Alg, .int .i64 y_19.Cipher.Bits, .int .i64 y_19.Mac.Alg, .int .i64 y_19.Mac.Bits, .int .i64 y_19.Least, .int .i64 y_19.Most, .int .i64 y_21.Code, .str y_21.Name, .int .i64 y_21.Exchange.Alg, .int .i64 y_21.Exchange.Bits, .int .i64 y_21.Sign.Alg, .int .i64 y_21.Sign.Bits, .int .i64 y_21.Cipher.Alg, .int .i64 y_21.Cipher.Bits, .int .i64 y_21.Mac.Alg, .int .i64 y_21.Mac.Bits, .int .i64 y_21.Least, .int .i64 y_21.Most, .int .i64 y_22.Code, .str y_22.Name, .int .i64 y_22.Exchange.Alg, .int .i64 y_22.Exchange.Bits, .int .i64 y_22.Sign.Alg, .int .i64 y_22.Sign.Bits, .int .i64 y_22.Cipher.Alg, .int .i64 y_22.Cipher.Bits, .int .i64 y_22.Mac.Alg, .int .i64 y_22.Mac.Bits, .int .i64 y_22.Least, .int .i64 y_22.Most, .int .i64 y_24.Code, .str y_24.Name, .int .i64 y_24.Exchange.Alg, .int .i64 y_24.Exchange.Bits, .int .i64 y_24.Sign.Alg, .int .i64 y_24.Sign.Bits, .int .i64 y_24.Cipher.Alg, .int .i64 y_24.Cipher.Bits, .int .i64 y_24.Mac.Alg, .int .i64 y_24.Mac.Bits, .int .i64 y_24.Least, .int .i64 y_24.Most, .int .i64 y_25.Code, .str y_25.Name, .int .i64 y_25.Exchange.Alg, .int .i64 y_25.Exchange.Bits, .int .i64 y_25.Sign.Alg, .int .i64 y_25.Sign.Bits, .int .i64 y_25.Cipher.Alg, .int .i64 y_25.Cipher.Bits, .int .i64 y_25.Mac.Alg, .int .i64 y_25.Mac.Bits, .int .i64 y_25.Least, .int .i64 y_25.Most, .int .i64 y_28.Code, .str y_28.Name, .int .i64 y_28.Exchange.Alg, .int .i64 y_28.Exchange.Bits, .int .i64 y_28.Sign.Alg, .int .i64 y_28.Sign.Bits, .int .i64 y_28.Cipher.Alg, .int .i64 y_28.Cipher.Bits, .int .i64 y_28.Mac.Alg, .int .i64 y_28.Mac.Bits, .int .i64 y_28.Least, .int .i64 y_28.Most, .int .i64 y_29.Code, .str y_29.Name, .int .i64 y_29.Exchange.Alg, .int .i64 y_29.Exchange.Bits, .int .i64 y_29.Sign.Alg, .int .i64 y_29.Sign.Bits, .int .i64 y_29.Cipher.Alg, .int .i64 y_29.Cipher.Bits, .int .i64 y_29.Mac.Alg, .int .i64 y_29.Mac.Bits, .int .i64 y_29.Least, .int .i64 y_29.Most, .int .i64 y_32.Code, .str y_32.Name, .int .i64 y_32.Exchange.Alg, .int .i64 y_32.Exchange.Bits, .int .i64 y_32.Sign.Alg, .int .i64 y_32.Sign.Bits, .int .i64 y_32.Cipher.Alg, .int .i64 y_32.Cipher.Bits, .int .i64 y_32.Mac.Alg, .int .i64 y_32.Mac.Bits, .int .i64 y_32.Least, .int .i64 y_32.Most, .int .i64 y_33.Code, .str y_33.Name, .int .i64 y_33.Exchange.Alg, .int .i64 y_33.Exchange.Bits, .int .i64 y_33.Sign.Alg, .int .i64 y_33.Sign.Bits, .int .i64 y_33.Cipher.Alg, .int .i64 y_33.Cipher.Bits, .int .i64 y_33.Mac.Alg, .int .i64 y_33.Mac.Bits, .int .i64 y_33.Least, .int .i64 y_33.Most, .int .i64 y_34.Code, .str y_34.Name, .int .i64 y_34.Exchange.Alg, .int .i64 y_34.Exchange.Bits, .int .i64 y_34.Sign.Alg, .int .i64 y_34.Sign.Bits, .int .i64 y_34.Cipher.Alg, .int .i64 y_34.Cipher.Bits, .int .i64 y_34.Mac.Alg, .int .i64 y_34.Mac.Bits, .int .i64 y_34.Least, .int .i64 y_34.Most, .int .i64 y_35.Code, .str y_35.Name, .int .i64 y_35.Exchange.Alg, .int .i64 y_35.Exchange.Bits, .int .i64 y_35.Sign.Alg, .int .i64 y_35.Sign.Bits, .int .i64 y_35.Cipher.Alg, .int .i64 y_35.Cipher.Bits, .int .i64 y_35.Mac.Alg, .int .i64 y_35.Mac.Bits, .int .i64 y_35.Least, .int .i64 y_35.Most, .int .i64 y_36.Code, .str y_36.Name, .int .i64 y_36.Exchange.Alg, .int .i64 y_36.Exchange.Bits, .int .i64 y_36.Sign.Alg, .int .i64 y_36.Sign.Bits, .int .i64 y_36.Cipher.Alg, .int .i64 y_36.Cipher.Bits, .int .i64 y_36.Mac.Alg, .int .i64 y_36.Mac.Bits, .int .i64 y_36.Least, .int .i64 y_36.Most, .int .i64 y_38.Code, .str y_38.Name, .int .i64 y_38.Exchange.Alg, .int .i64 y_38.Exchange.Bits, .int .i64 y_38.Sign.Alg, .int .i64 y_38.Sign.Bits, .int .i64 y_38.Cipher.Alg, .int .i64 y_38.Cipher.Bits, .int .i64 y_38.Mac.Alg, .int .i64 y_38.Mac.Bits, .int .i64 y_38.Least, .int .i64 y_38.Most]) (.cons .int (.cons .str (.cons .int (.cons .int (.cons .int (.cons .int (.cons .int (.cons .int (.cons .int (.cons .int (.cons .int (.cons .int (.cons .int (.cons .str (.cons .int (.cons .int (.cons .int (.cons .int (.cons .int (.cons .int (.cons .int (.cons .int (.cons .int (.cons .int (.cons .int (.cons .str (.cons .int (.cons .int (.cons .int (.cons .int (.cons .int (.cons .int (.cons .int (.cons .int (.cons .int (.cons .int (.cons .int (.cons .str (.cons .int (.cons .int (.cons .int (.cons .int (.cons .int (.cons .int (.cons .int (.cons .int (.cons .int (.cons .int (.cons .int (.cons .str (.cons .int (.cons .int (.cons .int (.cons .int (.cons .int (.cons .int (.cons .int (.cons .int (.cons .int (.cons .int (.cons .int (.cons .str (.cons .int (.cons .int (.cons .int (.cons .int (.cons .int (.cons .int (.cons .int (.cons .int (.cons .int (.cons .int (.cons .int (.cons .str (.cons .int (.cons .int (.cons .int (.cons .int (.cons .int (.cons .int (.cons .int (.cons .int (.cons .int (.cons .int (.cons .int (.cons .str (.cons .int (.cons .int (.cons .int (.cons .int (.cons .int (.cons .int (.cons .int (.cons .int (.cons .int (.cons .int (.cons .int (.cons .str (.cons .int (.cons .int (.cons .int (.cons .int (.cons .int (.cons .int (.cons .int (.cons .int (.cons .int (.cons .int (.cons .int (.cons .str (.cons .int (.cons .int (.cons .int (.cons .int (.cons .int (.cons .int (.cons .int (.cons .int (.cons .int (.cons .int (.cons .int (.cons .str (.cons .int (.cons .int (.cons .int (.cons .int (.cons .int (.cons .int (.cons .int (.cons .int (.cons .int (.cons .int (.cons .int (.cons .str (.cons .int (.cons .int (.cons .int (.cons .int (.cons .int (.cons .int (.cons .int (.cons .int (.cons .int (.cons .int (.cons .int (.cons .str (.cons .int (.cons .int (.cons .int (.cons .int (.cons .int (.cons .int (.cons .int (.cons .int (.cons .int (.cons .int (.cons .int (.cons .str (.cons .int (.cons .int (.cons .int (.cons .int (.cons .int (.cons .int (.cons .int (.cons .int (.cons .int (.cons .int (.cons .int (.cons .str (.cons .int (.cons .int (.cons .int (.cons .int (.cons .int (.cons .int (.cons .int (.cons .int (.cons .int (.cons .int (.cons .int (.cons .str (.cons .int (.cons .int (.cons .int (.cons .int (.cons .int (.cons .int (.cons .int (.cons .int (.cons .int (.cons .int .nil)))))))))))))))))))))))))))))))))))))))))))))))))))))))))))))))))))))))))))))))))))))))))))))))))))))))))))))))))))))))))))))))))))))))))))))))))))))))))))))))))))))))))))))))))))))))))))))))) rfl (l := ([y_14, y_15, y_16, y_19, y_21, y_22, y_24, y_25, y_28, y_29, y_32, y_33, y_34, y_35, y_36, y_38] : List api_Suite)) (f := api_Suite.enc) rfl) rfl rfl ?_
 refine go_ ?_
 refine ch_n fun hU => ?_
 refine aw_r ?_
 obtain rfl := Option.some.inj hg
 exact fin_ [] ⟨rfl, rfl⟩
theorem w_ref02_Suite (code : Int) (r : api_Suite × Int) (hg : g_ref02_Suite code = some r) : Fn Tryz.prog 51 0 [.val (.int .i64 code)] [] (fun d b => d = .tup [.agg (api_Suite.dv r.1), .val (.int .i64 r.2)] ∧ b = []) := by
 unfold g_ref02_Suite at hg
 refine Fn.of Tryz.func51 rfl rfl rfl fun w0 I ρ0 => ?_
 show awp _ ⟨w0, I, ρ0, 0, 0, 16⟩ _ _ _
 refine sr_ 0 16 mk_U ?_
 refine go_ ?_
 refine ch_n fun hU => ?_
 refine awp_seq ?_
 refine awp_cut (ι := Bool) (fun (x9_1 : Bool) => mk [(0, .val (.int .i64 code)), (2, .ptr 0 0), (9, .val (.bool x9_1))] [(0, .box [.val (.int .i64 0), .val (.string (⟨#[]⟩ : ByteArray)), .val (.int .i64 0), .val (.int .i64 0), .val (.int .i64 0), .val (.int .i64 0), .val (.int .i64 0), .val (.int .i64 0), .val (.int .i64 0), .val (.int .i64 0), .val (.int .i64 0), .val (.int .i64 0)] 110)] 1) (fun (x9_1 : Bool) => g_ref02_Suite.j1 code x9_1 = some r) ?_ ?_
 ·refine awp_region (sys _ _ []) 16 64 hU rfl rfl ?_
  refine go_ ?_
  rcases bc_ hg with ⟨h2, hg⟩ | ⟨h2, hg⟩
  ·refine go_ ?_
   refine ch_n fun hU => ?_
   exact ⟨true, hg, sub_ [(0, 0)]⟩
  ·refine go_ ?_
   refine ch_n fun hU => ?_
   exact ⟨decide (16 < code), hg, sub_ [(0, 0)]⟩
 ·rintro x9_1 hg
  replace hg : g_ref02_Suite.j1 code x9_1 = some r := hg
  show awp _ _ _ _ (mk _ _ _)
  unfold g_ref02_Suite.j1 at hg
  refine cg_ rfl hg (fun h5 hg => ?_) fun h5 hg => ?_
  ·refine awp_seq ?_
   refine awp_region (sys _ _ []) 1 25 mk_U rfl rfl ?_
   refine c0_ rfl rfl (.build (r := [.val (.int .i64 0), .val (.string (⟨#[]⟩ : ByteArray)), .val (.int .i64 0), .val (.int .i64 0), .val (.int .i64 0), .val (.int .i64 0), .val (.int .i64 0), .val (.int .i64 0), .val (.int .i64 0), .val (.int .i64 0), .val (.int .i64 0), .val (.int .i64 0)]) und110 pl110 z110 (by kernel_rfl) rfl) rfl rfl ?_
   refine go_ ?_
   refine ch_n fun hU => ?_
   refine aw_r ?_
   obtain rfl := Option.some.inj hg
   exact fin_ [] ⟨rfl, rfl⟩
  ·refine awp_skip ?_
   repeat first | refine st_ ?_ | refine sn_ ?_
   refine sr_ 1 57 mk_U ?_
   obtain ⟨y, hy, hg⟩ := bind_some hg
   refine ca_ (w_ref02_Suites _ hy) ?_
   refine go_ ?_
   obtain ⟨e, he, hg⟩ := bind_some hg
   refine go_ ?_
   refine c0_ rfl rfl (r_loadEA ty110 (enc_cells api_Suite.enc_len (getI_at he) (o := 0) (m := 12) (cs := [.int .i64 e.Code, .str e.Name, .int .i64 e.Exchange.Alg, .int .i64 e.Exchange.Bits, .int .i64 e.Sign.Alg, .int .i64 e.Sign.Bits, .int .i64 e.Cipher.Alg, .int .i64 e.Cipher.Bits, .int .i64 e.Mac.Alg, .int .i64 e.Mac.Bits, .int .i64 e.Least, .int .i64 e.Most]) rfl (by decide) rfl) (enc_cells_le api_Suite.enc_len (getI_at he) (o := 0) (m := 12) (by decide) rfl)) rfl rfl ?_
   refine go_ ?_
   refine ch_n fun hU => ?_
   refine aw_r ?_
   obtain rfl := Option.some.inj hg
   exact fin_ [] ⟨rfl, rfl⟩
theorem w_ref02_Has (l : (List Int)) (n : Int) (r : Bool) (hg : g_ref02_Has l n = some r) : Fn Tryz.prog 52 0 [.sl 1 (encL eI l), .val (.int .i64 n)] [] (fun d b => d = .val (.bool r) ∧ b = []) := by
 unfold g_ref02_Has at hg
 refine Fn.of Tryz.func52 rfl rfl rfl fun w0 I ρ0 => ?_
 show awp _ ⟨w0, I, ρ0, 0, 0, 18⟩ _ _ _
 refine sr_ 0 8 mk_U ?_
 refine go_ ?_
 refine ch_n fun hU => ?_
 refine awp_seq ?_
 refine sr_ 8 16 hU ?_
 refine go_ ?_
 refine ch_n fun hU => ?_
 refine awp_block ?_
 refine lp_ (fun (i_1 : Int) => mk [(0, .sl 1 (encL eI l)), (1, .val (.int .i64 n)), (5, .val (.int .i64 i_1))] [] 0) hg (sub_ []) ?_
 rintro i_1 m1 o1 hg hn1
 replace hg : g_ref02_Has.l1 l n i_1 = some o1 := hg
 show awp _ _ _ _ (mk _ _ _)
 unfold g_ref02_Has.l1 at hg
 refine awp_seq ?_
 refine sr_ 0 32 mk_U ?_
 refine go_ ?_
 refine ch_n fun hU => ?_
 refine cg_ rfl hg (fun h4 hg => ?_) fun h4 hg => ?_
 ·refine awp_skip ?_
  repeat first | refine st_ ?_ | refine sn_ ?_
  refine awp_seq ?_
  refine awp_block ?_
  refine sr_ 32 80 hU ?_
  refine go_ ?_
  obtain ⟨e, he, hg⟩ := bind_some hg
  refine go_ ?_
  refine c0_ rfl rfl (r_loadE1 ty3 (enc_cell eI_len (getI_at he) (o := 0) (c := .int .i64 e) rfl rfl)) rfl rfl ?_
  refine go_ ?_
  refine ch_n fun hU => ?_
  refine cg_ rfl hg (fun h6 hg => ?_) fun h6 hg => ?_
  ·refine awp_seq ?_
   refine awp_region (sys _ _ []) 80 88 hU rfl rfl ?_
   refine go_ ?_
   refine ch_n fun hU => ?_
   refine aw_r ?_
   replace hg := leave hg hn1
   obtain rfl := Option.some.inj hg
   exact fin_ [] ⟨rfl, rfl⟩
  ·refine awp_skip ?_
   repeat first | refine st_ ?_ | refine sn_ ?_
   refine awp_region (sys _ _ []) 80 104 hU rfl rfl ?_
   refine go_ ?_
   refine ch_n fun hU => ?_
   obtain rfl := Option.some.inj hg
   exact ⟨(W (i_1 + 1), m1), Nat.lt_succ_self _, hn1, sub_ []⟩
 ·refine awp_exit ?_
  repeat first | refine st_ ?_ | refine sn_ ?_
  replace hg := leave hg hn1
  refine sr_ 32 40 hU ?_
  refine go_ ?_
  refine ch_n fun hU => ?_
  refine aw_r ?_
  obtain rfl := Option.some.inj hg
  exact fin_ [] ⟨rfl, rfl⟩
theorem w_ref05_Right (key : api_Use) (id : Int) (chain : (List api_Certificate)) (r : Bool) (hg : g_ref05_Right key id chain = some r) : Fn Tryz.prog 53 0 [.agg [.val (.int .i64 key.Alg), .val (.int .i64 key.Bits)], .val (.int .i64 id), .sl 15 (encL api_Certificate.enc chain)] [] (fun d b => d = .val (.bool r) ∧ b = []) := by
 unfold g_ref05_Right at hg
 refine Fn.of Tryz.func53 rfl rfl rfl fun w0 I ρ0 => ?_
 show awp _ ⟨w0, I, ρ0, 0, 0, 55⟩ _ _ _
 refine sr_ 0 16 mk_U ?_
 refine go_ ?_
 refine ch_n fun hU => ?_
 refine awp_seq ?_
 refine awp_cut (ι := Bool) (fun (x23_1 : Bool) => mk [(1, .val (.int .i64 id)), (2, .sl 15 (encL api_Certificate.enc chain)), (3, .ptr 0 0), (23, .val (.bool x23_1))] [(0, .box [.val (.int .i64 key.Alg), .val (.int .i64 key.Bits)] 42)] 1) (fun (x23_1 : Bool) => g_ref05_Right.j1 key id chain x23_1 = some r) ?_ ?_
 ·refine awp_region (sys _ _ []) 16 144 hU rfl rfl ?_
  refine go_ ?_
  obtain ⟨y, hy, hg⟩ := bind_some hg
  refine ca_ (w_ref03_Signature _ _ hy) ?_
  refine go_ ?_
  rcases bc_ hg with ⟨h2, hg⟩ | ⟨h2, hg⟩
  ·refine go_ ?_
   refine ch_n fun hU => ?_
   exact ⟨true, hg, sub_ [(0, 0)]⟩
  ·refine go_ ?_
   rcases bc_ hg with ⟨h4, hg⟩ | ⟨h4, hg⟩
   ·refine go_ ?_
    refine ch_n fun hU => ?_
    exact ⟨true, hg, sub_ [(0, 0)]⟩
   ·refine go_ ?_
    rcases bc_ hg with ⟨h6, hg⟩ | ⟨h6, hg⟩
    ·refine go_ ?_
     refine ch_n fun hU => ?_
     exact ⟨true, hg, sub_ [(0, 0)]⟩
    ·refine go_ ?_
     refine ch_n fun hU => ?_
     exact ⟨decide (8 < (chain.length : Int)), hg, sub_ [(0, 0)]⟩
 ·rintro x23_1 hg
  replace hg : g_ref05_Right.j1 key id chain x23_1 = some r := hg
  show awp _ _ _ _ (mk _ _ _)
  unfold g_ref05_Right.j1 at hg
  refine cg_ rfl hg (fun h9 hg => ?_) fun h9 hg => ?_
  ·refine awp_seq ?_
   refine awp_region (sys _ _ []) 1 9 mk_U rfl rfl ?_
   refine go_ ?_
   refine ch_n fun hU => ?_
   refine aw_r ?_
   obtain rfl := Option.some.inj hg
   exact fin_ [] ⟨rfl, rfl⟩
  ·refine awp_skip ?_
   repeat first | refine st_ ?_ | refine sn_ ?_
   refine awp_seq ?_
   refine sr_ 1 9 mk_U ?_
   refine go_ ?_
   refine ch_n fun hU => ?_
   refine awp_block ?_
   refine lp_ (fun (i_2 : Int) => mk [(1, .val (.int .i64 id)), (2, .sl 15 (encL api_Certificate.enc chain)), (3, .ptr 0 0), (7, .val (.int .i64 i_2))] [(0, .box [.val (.int .i64 key.Alg), .val (.int .i64 key.Bits)] 42)] 1) hg (sub_ [(0, 0)]) ?_
   rintro i_2 m2 o2 hg hn2
   replace hg : g_ref05_Right.l2 key id chain i_2 = some o2 := hg
   show awp _ _ _ _ (mk _ _ _)
   unfold g_ref05_Right.l2 at hg
   refine awp_seq ?_
   refine sr_ 1 33 mk_U ?_
   refine go_ ?_
   refine ch_n fun hU => ?_
   refine cg_ rfl hg (fun h13 hg => ?_) fun h13 hg => ?_
   ·refine awp_skip ?_
    repeat first | refine st_ ?_ | refine sn_ ?_
    refine awp_seq ?_
    refine awp_block ?_
    refine sr_ 33 81 hU ?_
    refine go_ ?_
    obtain ⟨e, he, hg⟩ := bind_some hg
    refine go_ ?_
    refine c0_ rfl rfl (r_loadEA ty81 (enc_cells api_Certificate.enc_len (getI_at he) (o := 0) (m := 15) (cs := [.int .i64 e.Serial, .str e.Issuer, .str e.Subject, .int .i64 e.Key.Alg, .int .i64 e.Key.Bits, .int .i64 e.KeyId, .int .i64 e.Hash.Alg, .int .i64 e.Hash.Bits, .int .i64 e.From, .int .i64 e.To, .bool e.Authority, .int .i64 e.Path, .sl 1 (encL eS e.Names), .int .i64 e.Seal.Key, .int .i64 e.Seal.Sum]) rfl (by decide) rfl) (enc_cells_le api_Certificate.enc_len (getI_at he) (o := 0) (m := 15) (by decide) rfl)) rfl rfl ?_
    obtain ⟨y_2, hy_2, hg⟩ := bind_some hg
    refine ca_ (w_ref03_Check _ _ hy_2) ?_
    refine go_ ?_
    refine ch_n fun hU => ?_
    refine cg_ rfl hg (fun h15 hg => ?_) fun h15 hg => ?_
    ·refine awp_seq ?_
     refine awp_region (sys _ _ []) 81 89 hU rfl rfl ?_
     refine go_ ?_
     refine ch_n fun hU => ?_
     refine aw_r ?_
     replace hg := leave hg hn2
     obtain rfl := Option.some.inj hg
     exact fin_ [] ⟨rfl, rfl⟩
    ·refine awp_skip ?_
     repeat first | refine st_ ?_ | refine sn_ ?_
     refine awp_region (sys _ _ []) 81 105 hU rfl rfl ?_
     refine go_ ?_
     refine ch_n fun hU => ?_
     obtain rfl := Option.some.inj hg
     exact ⟨(W (i_2 + 1), m2), Nat.lt_succ_self _, hn2, sub_ [(0, 0)]⟩
   ·refine awp_exit ?_
    repeat first | refine st_ ?_ | refine sn_ ?_
    replace hg := leave hg hn2
    refine awp_seq ?_
    refine awp_draw (sys _ _ []) (by kernel_rfl) [0, 1, 3, 7, 15, 31, 63, 127, 15, 511, 1023, 2047, 4095, 8191, 16383, 2047, 65535, 131071, 262143, 524287] 33 193 hU rfl rfl (by kernel_rfl) ?_
    refine go_ ?_
    rcases bc_ hg with ⟨h18, hg⟩ | ⟨h18, hg⟩
    ·refine go_ ?_
     refine ch_n fun hU => ?_
     refine aw_r ?_
     obtain rfl := Option.some.inj hg
     exact fin_ [] ⟨rfl, rfl⟩
    ·refine go_ ?_
     obtain ⟨e_2, he_2, hg⟩ := bind_some hg
     refine go_ ?_
     refine c0_ (gdv_t rfl rfl h18) rfl (r_fieldE fd81_3 ty42 (by decide) (enc_lt api_Certificate.enc_len (getI_at he_2) (o := 3) (by decide) rfl)) rfl rfl ?_
     refine c0_ (gdv_t rfl rfl h18) rfl (r_loadEA ty42 (enc_cells api_Certificate.enc_len (getI_at he_2) (o := 3) (m := 2) (cs := [.int .i64 e_2.Key.Alg, .int .i64 e_2.Key.Bits]) rfl (by decide) rfl) (enc_cells_le api_Certificate.enc_len (getI_at he_2) (o := 3) (m := 2) (by decide) rfl)) rfl rfl ?_
     refine go_ ?_
     refine c0_ (gdv_t rfl rfl h18) rfl (steq42_eql e_2.Key key) rfl rfl ?_
     refine go_ ?_
     rcases bc_ hg with ⟨h20, hg⟩ | ⟨h20, hg⟩
     ·refine go_ ?_
      refine c0_ (gdv_t rfl rfl h20) rfl (r_fieldE fd81_4 ty3 (by decide) (enc_lt api_Certificate.enc_len (getI_at he_2) (o := 5) (by decide) rfl)) rfl rfl ?_
      refine c0_ (gdv_t rfl rfl h20) rfl (r_loadE1 ty3 (enc_cell api_Certificate.enc_len (getI_at he_2) (o := 5) (c := .int .i64 e_2.KeyId) rfl rfl)) rfl rfl ?_
      refine go_ ?_
      refine ch_n fun hU => ?_
      refine aw_r ?_
      obtain rfl := Option.some.inj hg
      exact fin_ [] ⟨rfl, rfl⟩
     ·refine go_ ?_
      refine ch_n fun hU => ?_
      refine aw_r ?_
      obtain rfl := Option.some.inj hg
      exact fin_ [] ⟨rfl, rfl⟩
theorem w_ref09_Check (e : api_Endpoint) (r : Int) (hg : g_ref09_Check e = some r) : Fn Tryz.prog 32 0 [.agg (api_Endpoint.dv e)] [] (fun d b => d = .val (.int .i64 r) ∧ b = []) := by
 unfold g_ref09_Check at hg
 refine Fn.of Tryz.func32 rfl rfl rfl fun w0 I ρ0 => ?_
 show awp _ ⟨w0, I, ρ0, 0, 0, 176⟩ _ _ _
 refine sr_ 0 16 mk_U ?_
 refine go_ ?_
 refine ch_n fun hU => ?_
 refine awp_seq ?_
 refine awp_cut (ι := Bool) (fun (x47_1 : Bool) => mk [(1, .ptr 0 0), (47, .val (.bool x47_1))] [(0, .box (api_Endpoint.dv e) 37)] 1) (fun (x47_1 : Bool) => g_ref09_Check.j1 e x47_1 = some r) ?_ ?_
 ·refine awp_region (sys _ _ []) 16 328 hU rfl rfl ?_
  refine go_ ?_
  obtain ⟨y, hy, hg⟩ := bind_some hg
  refine ca_ (w_ref06_Word _ _ hy) ?_
  refine go_ ?_
  rcases bc_ hg with ⟨h2, hg⟩ | ⟨h2, hg⟩
  ·refine go_ ?_
   refine ch_n fun hU => ?_
   exact ⟨true, hg, sub_ [(0, 0)]⟩
  ·refine go_ ?_
   rcases bc_ hg with ⟨h4, hg⟩ | ⟨h4, hg⟩
   ·refine go_ ?_
    refine ch_n fun hU => ?_
    exact ⟨true, hg, sub_ [(0, 0)]⟩
   ·refine go_ ?_
    rcases bc_ hg with ⟨h6, hg⟩ | ⟨h6, hg⟩
    ·refine go_ ?_
     refine ch_n fun hU => ?_
     exact ⟨true, hg, sub_ [(0, 0)]⟩
    ·refine go_ ?_
     rcases bc_ hg with ⟨h8, hg⟩ | ⟨h8, hg⟩
     ·refine go_ ?_
      refine ch_n fun hU => ?_
      exact ⟨true, hg, sub_ [(0, 0)]⟩
     ·refine go_ ?_
      rcases bc_ hg with ⟨h10, hg⟩ | ⟨h10, hg⟩
      ·refine go_ ?_
       refine ch_n fun hU => ?_
       exact ⟨true, hg, sub_ [(0, 0)]⟩
      ·refine go_ ?_
       rcases bc_ hg with ⟨h12, hg⟩ | ⟨h12, hg⟩
       ·refine go_ ?_
        refine ch_n fun hU => ?_
        exact ⟨true, hg, sub_ [(0, 0)]⟩
       ·refine go_ ?_
        refine ch_n fun hU => ?_
        exact ⟨decide (16 < (e.Anchors.length : Int)), hg, sub_ [(0, 0)]⟩
 ·rintro x47_1 hg
  replace hg : g_ref09_Check.j1 e x47_1 = some r := hg
  show awp _ _ _ _ (mk _ _ _)
  unfold g_ref09_Check.j1 at hg
  refine cg_ rfl hg (fun h15 hg => ?_) fun h15 hg => ?_
  ·refine awp_seq ?_
   refine awp_region (sys _ _ []) 1 9 mk_U rfl rfl ?_
   refine go_ ?_
   refine ch_n fun hU => ?_
   refine aw_r ?_
   obtain rfl := Option.some.inj hg
   exact fin_ [] ⟨rfl, rfl⟩
  ·refine awp_skip ?_
   repeat first | refine st_ ?_ | refine sn_ ?_
   refine awp_seq ?_
   refine sr_ 1 9 mk_U ?_
   refine go_ ?_
   refine ch_n fun hU => ?_
   refine awp_block ?_
   refine lp_ (fun (i_2 : Int) => mk [(1, .ptr 0 0), (3, .val (.int .i64 i_2))] [(0, .box (api_Endpoint.dv e) 37)] 1) hg (sub_ [(0, 0)]) ?_
   rintro i_2 m2 o2 hg hn2
   replace hg : g_ref09_Check.l2 e i_2 = some o2 := hg
   show awp _ _ _ _ (mk _ _ _)
   unfold g_ref09_Check.l2 at hg
   refine awp_seq ?_
   refine sr_ 1 41 mk_U ?_
   refine go_ ?_
   refine ch_n fun hU => ?_
   refine cg_ rfl hg (fun h19 hg => ?_) fun h19 hg => ?_
   ·refine awp_skip ?_
    repeat first | refine st_ ?_ | refine sn_ ?_
    refine awp_seq ?_
    refine awp_block ?_
    refine sr_ 41 137 hU ?_
    refine go_ ?_
    obtain ⟨e_2, he_2, hg⟩ := bind_some hg
    refine go_ ?_
    refine c0_ rfl rfl (r_loadE1 ty3 (enc_cell eI_len (getI_at he_2) (o := 0) (c := .int .i64 e_2) rfl rfl)) rfl rfl ?_
    obtain ⟨y_2, hy_2, hg⟩ := bind_some hg
    refine ca_ (w_ref02_Suite _ _ hy_2) ?_
    refine go_ ?_
    refine ch_n fun hU => ?_
    refine awp_cut (ι := Bool) (fun (x77_3 : Bool) => mk [(1, .ptr 0 0), (3, .val (.int .i64 i_2)), (77, .val (.bool x77_3))] [(0, .box (api_Endpoint.dv e) 37)] 1) (fun (x77_3 : Bool) => g_ref09_Check.j3 i_2 x77_3 = some o2) ?_ ?_
    ·refine awp_draw (sys _ _ []) (by kernel_rfl) [0, 1, 3, 7, 15, 7, 63, 7, 135, 7, 903, 1927, 4095, 8191] 137 249 hU rfl rfl (by kernel_rfl) ?_
     refine go_ ?_
     rcases bc_ hg with ⟨h21, hg⟩ | ⟨h21, hg⟩
     ·refine go_ ?_
      refine ch_n fun hU => ?_
      exact ⟨true, hg, sub_ [(0, 0)]⟩
     ·refine go_ ?_
      obtain ⟨l, hl, hg⟩ := bind_some hg
      refine c0_ (gdv_t rfl rfl h21) rfl (r_sliS_hi sl22 eI_len hl) rfl rfl ?_
      refine go_ ?_
      refine c0_ (gdv_t rfl rfl h21) rfl (r_loadE1 ty3 (enc_cell eI_len (getI_at he_2) (o := 0) (c := .int .i64 e_2) rfl rfl)) rfl rfl ?_
      obtain ⟨y_3, hy_3, hg⟩ := bind_some hg
      refine ca_ (w_ref02_Has _ _ _ hy_3) ?_
      refine go_ ?_
      refine ch_n fun hU => ?_
      exact ⟨y_3, hg, sub_ [(0, 0)]⟩
    ·rintro x77_3 hg
     replace hg : g_ref09_Check.j3 i_2 x77_3 = some o2 := hg
     show awp _ _ _ _ (mk _ _ _)
     unfold g_ref09_Check.j3 at hg
     refine cg_ rfl hg (fun h24 hg => ?_) fun h24 hg => ?_
     ·refine awp_seq ?_
      refine awp_region (sys _ _ []) 1 9 mk_U rfl rfl ?_
      refine go_ ?_
      refine ch_n fun hU => ?_
      refine aw_r ?_
      replace hg := leave hg hn2
      obtain rfl := Option.some.inj hg
      exact fin_ [] ⟨rfl, rfl⟩
     ·refine awp_skip ?_
      repeat first | refine st_ ?_ | refine sn_ ?_
      refine awp_region (sys _ _ []) 1 25 mk_U rfl rfl ?_
      refine go_ ?_
      refine ch_n fun hU => ?_
      obtain rfl := Option.some.inj hg
      exact ⟨(W (i_2 + 1), m2), Nat.lt_succ_self _, hn2, sub_ [(0, 0)]⟩
   ·refine awp_exit ?_
    repeat first | refine st_ ?_ | refine sn_ ?_
    replace hg := leave hg hn2
    refine awp_seq ?_
    refine sr_ 41 49 hU ?_
    refine go_ ?_
    refine ch_n fun hU => ?_
    refine awp_block ?_
    refine lp_ (fun (i_4 : Int) => mk [(1, .ptr 0 0), (6, .val (.int .i64 i_4))] [(0, .box (api_Endpoint.dv e) 37)] 1) hg (sub_ [(0, 0)]) ?_
    rintro i_4 m4 o4 hg hn4
    replace hg : g_ref09_Check.l4 e i_4 = some o4 := hg
    show awp _ _ _ _ (mk _ _ _)
    unfold g_ref09_Check.l4 at hg
    refine awp_seq ?_
    refine sr_ 1 41 mk_U ?_
    refine go_ ?_
    refine ch_n fun hU => ?_
    refine cg_ rfl hg (fun h29 hg => ?_) fun h29 hg => ?_
    ·refine awp_skip ?_
     repeat first | refine st_ ?_ | refine sn_ ?_
     refine awp_seq ?_
     refine awp_block ?_
     refine awp_seq ?_
     refine awp_draw (sys _ _ []) (by kernel_rfl) [0, 1, 0, 7, 15, 31, 0, 64, 0, 448, 960, 1984, 0, 4096, 0, 28672, 61440, 126976, 262143, 524287] 41 201 hU rfl rfl (by kernel_rfl) ?_
     refine go_ ?_
     obtain ⟨e_3, he_3, hg⟩ := bind_some hg
     refine go_ ?_
     refine c0_ rfl rfl (r_fieldE fd58_0 ty42 (by decide) (enc_lt api_Identity.enc_len (getI_at he_3) (o := 0) (by decide) rfl)) rfl rfl ?_
     refine c0_ rfl rfl (r_loadEA ty42 (enc_cells api_Identity.enc_len (getI_at he_3) (o := 0) (m := 2) (cs := [.int .i64 e_3.Key.Alg, .int .i64 e_3.Key.Bits]) rfl (by decide) rfl) (enc_cells_le api_Identity.enc_len (getI_at he_3) (o := 0) (m := 2) (by decide) rfl)) rfl rfl ?_
     refine go_ ?_
     refine c0_ rfl rfl (r_fieldE fd58_1 ty3 (by decide) (enc_lt api_Identity.enc_len (getI_at he_3) (o := 2) (by decide) rfl)) rfl rfl ?_
     refine c0_ rfl rfl (r_loadE1 ty3 (enc_cell api_Identity.enc_len (getI_at he_3) (o := 2) (c := .int .i64 e_3.KeyId) rfl rfl)) rfl rfl ?_
     refine go_ ?_
     refine c0_ rfl rfl (r_fieldE fd58_2 ty56 (by decide) (enc_lt api_Identity.enc_len (getI_at he_3) (o := 3) (by decide) rfl)) rfl rfl ?_
     refine c0_ rfl rfl (r_loadE1 ty56 (enc_cell api_Identity.enc_len (getI_at he_3) (o := 3) (c := .sl 15 (encL api_Certificate.enc e_3.Chain)) rfl rfl)) rfl rfl ?_
     obtain ⟨y_4, hy_4, hg⟩ := bind_some hg
     refine ca_ (w_ref05_Right _ _ _ _ hy_4) ?_
     refine go_ ?_
     refine ch_n fun hU => ?_
     refine cg_ rfl hg (fun h31 hg => ?_) fun h31 hg => ?_
     ·refine awp_seq ?_
      refine awp_region (sys _ _ []) 201 209 hU rfl rfl ?_
      refine go_ ?_
      refine ch_n fun hU => ?_
      refine aw_r ?_
      replace hg := leave hg hn4
      obtain rfl := Option.some.inj hg
      exact fin_ [] ⟨rfl, rfl⟩
     ·refine awp_skip ?_
      repeat first | refine st_ ?_ | refine sn_ ?_
      refine awp_region (sys _ _ []) 201 225 hU rfl rfl ?_
      refine go_ ?_
      refine ch_n fun hU => ?_
      obtain rfl := Option.some.inj hg
      exact ⟨(W (i_4 + 1), m4), Nat.lt_succ_self _, hn4, sub_ [(0, 0)]⟩
    ·refine awp_exit ?_
     repeat first | refine st_ ?_ | refine sn_ ?_
     replace hg := leave hg hn4
     refine awp_seq ?_
     refine sr_ 41 49 hU ?_
     refine go_ ?_
     refine ch_n fun hU => ?_
     refine awp_block ?_
     refine lp_ (fun (i_5 : Int) => mk [(1, .ptr 0 0), (7, .val (.int .i64 i_5))] [(0, .box (api_Endpoint.dv e) 37)] 1) hg (sub_ [(0, 0)]) ?_
     rintro i_5 m5 o5 hg hn5
     replace hg : g_ref09_Check.l5 e i_5 = some o5 := hg
     show awp _ _ _ _ (mk _ _ _)
     unfold g_ref09_Check.l5 at hg
     refine awp_seq ?_
     refine sr_ 1 41 mk_U ?_
     refine go_ ?_
     refine ch_n fun hU => ?_
     refine cg_ rfl hg (fun h36 hg => ?_) fun h36 hg => ?_
     ·refine awp_skip ?_
      repeat first | refine st_ ?_ | refine sn_ ?_
      refine awp_seq ?_
      refine awp_block ?_
      refine awp_cut (ι := Bool) (fun (x143_6 : Bool) => mk [(1, .ptr 0 0), (7, .val (.int .i64 i_5)), (143, .val (.bool x143_6))] [(0, .box (api_Endpoint.dv e) 37)] 1) (fun (x143_6 : Bool) => g_ref09_Check.j6 i_5 x143_6 = some o5) ?_ ?_
      ·refine awp_draw (sys _ _ []) (by kernel_rfl) [0, 1, 0, 7, 15, 31, 63, 127, 255, 127, 1023, 2047, 4095, 8191, 16383, 32767, 65535, 131071, 262143, 524287, 262143, 1310719, 4194303, 8388607, 262143, 17039359, 262143, 117702655, 251920383, 536870911, 1073741823, 2147483647] 41 297 hU rfl rfl (by kernel_rfl) ?_
       refine go_ ?_
       obtain ⟨e_4, he_4, hg⟩ := bind_some hg
       refine go_ ?_
       refine c0_ rfl rfl (r_loadE1 ty3 (enc_cell eI_len (getI_at he_4) (o := 0) (c := .int .i64 e_4) rfl rfl)) rfl rfl ?_
       refine go_ ?_
       rcases bc_ hg with ⟨h37, hg⟩ | ⟨h37, hg⟩
       ·refine go_ ?_
        refine ch_n fun hU => ?_
        exact ⟨true, hg, sub_ [(0, 0)]⟩
       ·refine go_ ?_
        refine c0_ (gdv_t rfl rfl h37) rfl (r_loadE1 ty3 (enc_cell eI_len (getI_at he_4) (o := 0) (c := .int .i64 e_4) rfl rfl)) rfl rfl ?_
        refine go_ ?_
        rcases bc_ hg with ⟨h39, hg⟩ | ⟨h39, hg⟩
        ·refine go_ ?_
         refine ch_n fun hU => ?_
         exact ⟨true, hg, sub_ [(0, 0)]⟩
        ·refine go_ ?_
         rcases bc_ hg with ⟨h41, hg⟩ | ⟨h41, hg⟩
         ·refine go_ ?_
          obtain ⟨e_5, he_5, hg⟩ := bind_some hg
          refine go_ ?_
          refine c0_ (gdv_t rfl rfl h41) rfl (r_loadE1 ty3 (enc_cell eI_len (getI_at he_5) (o := 0) (c := .int .i64 e_5) rfl rfl)) rfl rfl ?_
          refine go_ ?_
          refine c0_ (gdv_t rfl rfl h41) rfl (r_loadE1 ty3 (enc_cell eI_len (getI_at he_4) (o := 0) (c := .int .i64 e_4) rfl rfl)) rfl rfl ?_
          refine go_ ?_
          refine ch_n fun hU => ?_
          exact ⟨decide (e_4 ≤ e_5), hg, sub_ [(0, 0)]⟩
         ·refine go_ ?_
          refine ch_n fun hU => ?_
          exact ⟨false, hg, sub_ [(0, 0)]⟩
      ·rintro x143_6 hg
       replace hg : g_ref09_Check.j6 i_5 x143_6 = some o5 := hg
       show awp _ _ _ _ (mk _ _ _)
       unfold g_ref09_Check.j6 at hg
       refine cg_ rfl hg (fun h44 hg => ?_) fun h44 hg => ?_
       ·refine awp_seq ?_
        refine awp_region (sys _ _ []) 1 9 mk_U rfl rfl ?_
        refine go_ ?_
        refine ch_n fun hU => ?_
        refine aw_r ?_
        replace hg := leave hg hn5
        obtain rfl := Option.some.inj hg
        exact fin_ [] ⟨rfl, rfl⟩
       ·refine awp_skip ?_
        repeat first | refine st_ ?_ | refine sn_ ?_
        refine awp_region (sys _ _ []) 1 25 mk_U rfl rfl ?_
        refine go_ ?_
        refine ch_n fun hU => ?_
        obtain rfl := Option.some.inj hg
        exact ⟨(W (i_5 + 1), m5), Nat.lt_succ_self _, hn5, sub_ [(0, 0)]⟩
     ·refine awp_exit ?_
      repeat first | refine st_ ?_ | refine sn_ ?_
      replace hg := leave hg hn5
      refine awp_seq ?_
      refine sr_ 41 49 hU ?_
      refine go_ ?_
      refine ch_n fun hU => ?_
      refine awp_block ?_
      refine lp_ (fun (i_7 : Int) => mk [(1, .ptr 0 0), (8, .val (.int .i64 i_7))] [(0, .box (api_Endpoint.dv e) 37)] 1) hg (sub_ [(0, 0)]) ?_
      rintro i_7 m7 o7 hg hn7
      replace hg : g_ref09_Check.l7 e i_7 = some o7 := hg
      show awp _ _ _ _ (mk _ _ _)
      unfold g_ref09_Check.l7 at hg
      refine awp_seq ?_
      refine sr_ 1 41 mk_U ?_
      refine go_ ?_
      refine ch_n fun hU => ?_
      refine cg_ rfl hg (fun h49 hg => ?_) fun h49 hg => ?_
      ·refine awp_skip ?_
       repeat first | refine st_ ?_ | refine sn_ ?_
       refine awp_seq ?_
       refine awp_block ?_
       refine awp_cut (ι := Bool) (fun (x175_8 : Bool) => mk [(1, .ptr 0 0), (8, .val (.int .i64 i_7)), (175, .val (.bool x175_8))] [(0, .box (api_Endpoint.dv e) 37)] 1) (fun (x175_8 : Bool) => g_ref09_Check.j8 i_7 x175_8 = some o7) ?_ ?_
       ·refine awp_draw (sys _ _ []) (by kernel_rfl) [0, 1, 0, 7, 15, 31, 63, 127, 255, 511, 1023, 2047, 4095, 2047, 10239, 32767, 65535, 2047, 133119, 2047, 919551, 1968127, 4194303, 8388607, 16777215] 41 241 hU rfl rfl (by kernel_rfl) ?_
        refine go_ ?_
        obtain ⟨e_6, he_6, hg⟩ := bind_some hg
        refine go_ ?_
        refine c0_ rfl rfl (r_loadE1 ty3 (enc_cell eI_len (getI_at he_6) (o := 0) (c := .int .i64 e_6) rfl rfl)) rfl rfl ?_
        obtain ⟨y_5, hy_5, hg⟩ := bind_some hg
        refine ca_ (w_ref02_Kind _ _ hy_5) ?_
        refine go_ ?_
        rcases bc_ hg with ⟨h50, hg⟩ | ⟨h50, hg⟩
        ·refine go_ ?_
         refine ch_n fun hU => ?_
         exact ⟨true, hg, sub_ [(0, 0)]⟩
        ·refine go_ ?_
         rcases bc_ hg with ⟨h52, hg⟩ | ⟨h52, hg⟩
         ·refine go_ ?_
          obtain ⟨e_7, he_7, hg⟩ := bind_some hg
          refine go_ ?_
          refine c0_ (gdv_t rfl rfl h52) rfl (r_loadE1 ty3 (enc_cell eI_len (getI_at he_7) (o := 0) (c := .int .i64 e_7) rfl rfl)) rfl rfl ?_
          refine go_ ?_
          refine c0_ (gdv_t rfl rfl h52) rfl (r_loadE1 ty3 (enc_cell eI_len (getI_at he_6) (o := 0) (c := .int .i64 e_6) rfl rfl)) rfl rfl ?_
          refine go_ ?_
          refine ch_n fun hU => ?_
          exact ⟨decide (e_6 ≤ e_7), hg, sub_ [(0, 0)]⟩
         ·refine go_ ?_
          refine ch_n fun hU => ?_
          exact ⟨false, hg, sub_ [(0, 0)]⟩
       ·rintro x175_8 hg
        replace hg : g_ref09_Check.j8 i_7 x175_8 = some o7 := hg
        show awp _ _ _ _ (mk _ _ _)
        unfold g_ref09_Check.j8 at hg
        refine cg_ rfl hg (fun h55 hg => ?_) fun h55 hg => ?_
        ·refine awp_seq ?_
         refine awp_region (sys _ _ []) 1 9 mk_U rfl rfl ?_
         refine go_ ?_
         refine ch_n fun hU => ?_
         refine aw_r ?_
         replace hg := leave hg hn7
         obtain rfl := Option.some.inj hg
         exact fin_ [] ⟨rfl, rfl⟩
        ·refine awp_skip ?_
         repeat first | refine st_ ?_ | refine sn_ ?_
         refine awp_region (sys _ _ []) 1 25 mk_U rfl rfl ?_
         refine go_ ?_
         refine ch_n fun hU => ?_
         obtain rfl := Option.some.inj hg
         exact ⟨(W (i_7 + 1), m7), Nat.lt_succ_self _, hn7, sub_ [(0, 0)]⟩
      ·refine awp_exit ?_
       repeat first | refine st_ ?_ | refine sn_ ?_
       replace hg := leave hg hn7
       refine sr_ 41 49 hU ?_
       refine go_ ?_
       refine ch_n fun hU => ?_
       refine aw_r ?_
       obtain rfl := Option.some.inj hg
       exact fin_ [] ⟨rfl, rfl⟩
end Go.Proofs.YtoekocjflclojaaGreat
