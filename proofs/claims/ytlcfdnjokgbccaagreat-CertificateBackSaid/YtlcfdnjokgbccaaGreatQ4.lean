/- Certificates: the laws. No program is in sight here. -/
import Derived.Test.YtlcfdnjokgbccaaGreatQ3
import Derived.Test.YtlcfdnjokgbccaaGreatOW
import Derived.KernelRfl
set_option linter.unusedVariables false
set_option linter.unusedSimpArgs false
set_option maxRecDepth 100000
namespace Go.Proofs.YtlcfdnjokgbccaaGreat
open Go
theorem awake_law03 : g_law03_awake = some true := by
  have hu : (signS awakeC 3).2 = 0 := by kernel_rfl
  have hsc : certS (signS awakeC 3).1 = true := by kernel_rfl
  have hsf : FitC (signS awakeC 3).1 := signS_fit awakeC_fit ⟨by decide, by decide⟩
  have h3 : sealS (signS awakeC 3).1 3 = true := by kernel_rfl
  have h4 : sealS (signS awakeC 3).1 4 = false := by kernel_rfl
  have hs : sumS [97] = 3826002220 := by kernel_rfl
  unfold g_law03_awake
  show (g_certificate_Sign awakeC 3).bind _ = _
  rw [cat_Sign awakeC awakeC_fit, Option.bind_some, cat_Encode _ hsf, Option.bind_some, cat_Decode, Option.bind_some, dec_enc hsf hsc, hu, (elem_enc hsc).1]
  dsimp only
  rw [show decide ((0 : Int) = 0) = true from rfl, cond_true, cond_true, cond_true, cat_Sealed _ hsf, Option.bind_some, h3, cond_true, cat_Sealed _ hsf, Option.bind_some, h4, Bool.not_false, cond_true, cat_Same _ _ hsf.lo, Option.bind_some, decide_eq_true rfl, cond_true, cat_Sum _ (lo1 _), hs]
  rfl
theorem A03 : Ok (g_law03_awake.bind fun y => some y) (fun r => r = true) := Ok.bindE awake_law03 (Ok.ret rfl)
theorem agree_ok {c : api_Certificate} (hf : FitC c) {key : Int} (hk : I64 key) : g_law03_agree c key = some true := by
  unfold g_law03_agree g_certificate_Check
  rw [cat_Bytes c hf, ref_Bytes c hf, cat_Encode c hf, ref_Encode' c hf, cat_Sign c hf, ref_Sign c hf, cat_valid c hf, ref_Check c hf]
  simp only [Option.bind_some]
  have e : (cond (!certS c) (some 9) (some 0) : Option Int) = some (bif certS c then 0 else 9) := by cases certS c <;> rfl
  rw [e]
  simp only [Option.bind_some, decide_true, cond_true]
  rw [ref_Same _ _ (signS_fit hf hk).lo, cat_Sealed c hf, ref_Sealed c hf]
  simp only [Option.bind_some, decide_true, cond_true]
  rw [cat_Sealed c hf, ref_Sealed c hf]
  simp only [Option.bind_some, decide_true]
theorem law_CertificateMade (x0 : (List Int)) (x1 : api_Certificate) (x2 : Int) (hok : okVs [.sl 1 (encL eI x0), .agg [.val (.int .i64 x1.Serial), .val (.string x1.Issuer), .val (.string x1.Subject), .val (.int .i64 x1.Key.Alg), .val (.int .i64 x1.Key.Bits), .val (.int .i64 x1.KeyId), .val (.int .i64 x1.Hash.Alg), .val (.int .i64 x1.Hash.Bits), .val (.int .i64 x1.From), .val (.int .i64 x1.To), .val (.bool x1.Authority), .val (.int .i64 x1.Path), .sl 1 (encL eS x1.Names), .val (.int .i64 x1.Seal.Key), .val (.int .i64 x1.Seal.Sum)], .val (.int .i64 x2)]) : g_law03_CertificateMade x0 x1 x2 = some true := by
  refine Ok.true_ ?_
  unfold g_law03_CertificateMade g_make_Light
  rw [Option.bind_some]
  have T : Ok (g_law03_CertificateMade.j1 x0 x1 x2 true) (fun r => r = true) := A03
  refine Ok.cond (fun _ => T) fun hb => ?_
  have hl : x0.length ≤ 400 := by
    have := of_decide_eq_true (by simpa using hb)
    omega
  refine Ok.cond (fun _ => T) fun _ => ?_
  by_cases hn : 30 < x1.Names.length
  · rw [decide_eq_true (by omega)]; exact T
  rw [decide_eq_false (by omega)]
  simp only [okVs_cons, okV_i64, okV_str, okV_agg, okV_sl] at hok
  have hraw : FitC x1 := by
    obtain ⟨-, ⟨a1, a2, a3, a4, a5, a6, a7, a8, a9, b1, b2, b3, b4, b5, b6, -⟩, -⟩ := hok
    refine fit_mk (by omega) (fun s hs => ?_) a2 a3 a1 a4 a5 a6 a7 a8 a9 b1 b3 b5 b6
    have := okCs_encL b4.2 s hs
    simp only [eS, okCs] at this
    exact this.1
  have hkey : I64 x2 := hok.2.2.1
  unfold g_law03_CertificateMade.j1
  rw [cond_false]
  refine Ok.bind (roll_ok hl) fun d hd => ?_
  refine Ok.bind (made03_ok hd) fun y4 h4 => ?_
  refine Ok.bind (made03_ok h4.2) fun y5 h5 => ?_
  refine Ok.bind (mod_ok x2 30 (by omega) (by omega)) fun k hk => ?_
  have hk' : I64 k := by unfold I64; omega
  refine Ok.bindE (agree_ok h4.1.1 hk') ?_
  rw [cond_true]
  refine Ok.bindE (agree_ok h4.1.1 hkey) ?_
  rw [cond_true]
  refine Ok.bind (mod_ok x2 30 (by omega) (by omega)) fun k2 hk2 => ?_
  refine Ok.bindE (agree_ok hraw (by unfold I64; omega)) ?_
  rw [cond_true]
  refine Ok.bindE (cat_Same _ _ h4.1.1.lo) (Ok.bindE (ref_Same _ _ h4.1.1.lo) ?_)
  rw [decide_eq_true rfl, cond_true]
  refine Ok.bindE (cat_Same _ _ h4.1.1.lo) ?_
  rw [decide_eq_true rfl, cond_true]
  exact A03
theorem bytes_j2 (b : List UInt8) : Ok (g_law03_CertificateBytes.j2 b) (fun r => r = true) := by
  unfold g_law03_CertificateBytes.j2
  refine Ok.bindE (cat_Decode b) (Ok.bindE (ref_Decode b) ?_)
  rw [decide_eq_true rfl, cond_true]
  refine Ok.bindE (ref_Same _ _ (decCS_names b)) ?_
  rw [decide_eq_true rfl, cond_true]
  exact A03
theorem bytes_j1 (x1 : Int) (x2 x3 : UInt8) (b : List UInt8) (hb : b.length ≤ 4096) : Ok (g_law03_CertificateBytes.j1 x1 x2 x3 b) (fun r => r = true) := by
  unfold g_law03_CertificateBytes.j1
  refine Ok.cond (fun h0 => ?_) fun _ => bytes_j2 b
  have h0 := of_decide_eq_true h0
  refine Ok.bind (mod_ok x1 _ (by omega) (by omega)) fun i hi => ?_
  refine Ok.bind (Q := fun _ => True) ⟨x3 % 4, rfl, trivial⟩ fun q _ => ?_
  refine Ok.cond (fun _ => Ok.bind (getI_ok hi.1 hi.2) fun _ _ => bytes_j2 _) fun _ => ?_
  refine Ok.cond (fun _ => ?_) fun _ => ?_
  · rw [W_id (by omega)]
    refine Ok.bind (slI_ok (by omega)) fun _ _ => Ok.bind (slI_ok (by omega)) fun _ _ => ?_
    refine Ok.bind (appI_ok' (by simp only [List.length_take, List.length_drop]; omega)) fun _ _ => bytes_j2 _
  refine Ok.cond (fun _ => ?_) fun _ => bytes_j2 b
  refine Ok.bind (slI_ok (by omega)) fun _ _ => ?_
  refine Ok.bind (appI_ok' (by simp only [List.length_take, List.length_drop, List.length_nil]; omega)) fun l6 h6 => ?_
  subst h6
  refine Ok.bind (appI_ok' (by simp only [List.length_take, List.length_drop, List.length_append, List.length_nil, List.length_singleton]; omega)) fun l7 h7 => ?_
  subst h7
  refine Ok.bind (slI_ok (by omega)) fun _ _ => ?_
  refine Ok.bind (appI_ok' (by simp only [List.length_take, List.length_drop, List.length_append, List.length_nil, List.length_singleton]; omega)) fun _ _ => bytes_j2 _
theorem law_CertificateBytes (x0 : (List Int)) (x1 : Int) (x2 : UInt8) (x3 : UInt8) (hok : okVs [.sl 1 (encL eI x0), .val (.int .i64 x1), .val (.int .u8 (x2.toNat : Int)), .val (.int .u8 (x3.toNat : Int))]) : g_law03_CertificateBytes x0 x1 x2 x3 = some true := by
  refine Ok.true_ ?_
  unfold g_law03_CertificateBytes g_make_Light
  rw [Option.bind_some]
  refine Ok.cond (fun _ => A03) fun hb => ?_
  have hl : x0.length ≤ 400 := by
    have := of_decide_eq_true (by simpa using hb)
    omega
  refine Ok.bind (roll_ok hl) fun d hd => ?_
  refine Ok.bind (made03_ok hd) fun y4 h4 => ?_
  refine Ok.bindE (ref_Encode' _ h4.1.1) ?_
  refine Ok.cond (fun _ => ?_) fun _ => bytes_j1 _ _ _ _ (encCS_len _)
  have hs := h4.1.2.sz
  have he := elem_szs hs
  refine Ok.bindE (ref_Elem _ h4.1.1 hs) (Ok.bindE (ref01_Encode _ (by unfold elemV; rw [list_sz]; omega)) ?_)
  exact bytes_j1 _ _ _ _ (encS_len _)
theorem law_CertificateBack (x0 : (List Int)) (x1 : UInt8) (hok : okVs [.sl 1 (encL eI x0), .val (.int .u8 (x1.toNat : Int))]) : g_law03_CertificateBack x0 x1 = some true := by
  refine Ok.true_ ?_
  unfold g_law03_CertificateBack g_make_Light
  rw [Option.bind_some]
  refine Ok.cond (fun _ => A03) fun hb => ?_
  have hl : x0.length ≤ 400 := by
    have := of_decide_eq_true (by simpa using hb)
    omega
  have hk := x1.toNat_lt
  refine Ok.bind (roll_ok hl) fun d hd => ?_
  refine Ok.bind (key_ok3 hd) fun y4 h4 => ?_
  refine Ok.bind (next_ok h4.2 200 (by omega) (by omega)) fun y5 h5 => ?_
  refine Ok.bind (one_ok h5.2 2 (by omega) (by omega)) fun y6 h6 => ?_
  refine Ok.bind (cert_ok3 h6 y6.1 (by decide) (by decide) (by decide) h4.1 (by have := h5.1; omega) (by omega)) fun y7 h7 => ?_
  obtain ⟨hm, -⟩ := h7
  have hf := hm.fit
  have hc := hm.ok
  have hu := certS_unsl hc
  have e : signS y7.1 (x1.toNat : Int) = (reseal y7.1 ⟨(x1.toNat : Int), sumS (bytesS (unsl y7.1)).1⟩, 0) := by
    unfold signS
    rw [hu, decide_eq_true (by omega), decide_eq_true (by omega)]; rfl
  have hr := sumS_range (bytesS (unsl y7.1)).1
  refine Ok.bindE (cat_Sign y7.1 hf _) ?_
  rw [e]
  generalize hs : reseal y7.1 ⟨(x1.toNat : Int), sumS (bytesS (unsl y7.1)).1⟩ = s
  have hsf : FitC s := by rw [← hs]; exact reseal_fit hf (show I64 (x1.toNat : Int) by unfold I64; omega) (sumS_i64 _)
  have hsc : certS s = true := by rw [← hs]; exact certS_reseal hu ⟨by dsimp only; omega, by dsimp only; omega⟩ hr
  have hs1 : s.Seal.Key = (x1.toNat : Int) := by rw [← hs]; rfl
  have hbs : bytesS s = bytesS (unsl y7.1) := by
    rw [bytesS_ok hsc, bytesS_ok hu, ← hs]; rfl
  have hs2 : s.Seal.Sum = sumS (bytesS s).1 := by rw [hbs, ← hs]; rfl
  have hser : 0 ≤ s.Serial ∧ s.Serial < 1000 := by rw [← hs]; exact hm.serial
  have hkey : s.Key = y7.1.Key := by rw [← hs]; rfl
  refine Ok.bindE (cat_Encode s hsf) (Ok.bindE (cat_Decode _) ?_)
  rw [dec_enc hsf hsc, (elem_enc hsc).1]
  dsimp only
  rw [show (!decide ((0 : Int) = 0)) = false from rfl, cond_false, cond_false, cond_false]
  refine Ok.bindE (cat_Same s s hsf.lo) ?_
  rw [decide_eq_true rfl, Bool.not_true, cond_false]
  have hseal : sealS s (x1.toNat : Int) = true := by
    unfold sealS
    rw [decide_eq_true hs1, decide_eq_true hs2, bytesS_ok hsc]; rfl
  refine Ok.bindE (cat_Sealed s hsf _) ?_
  rw [hseal, Bool.not_true, cond_false, W_id (by omega)]
  have hno : sealS s ((x1.toNat : Int) + 1) = false := by
    unfold sealS
    rw [decide_eq_false (show ¬ s.Seal.Key = (x1.toNat : Int) + 1 by omega)]
    simp
  refine Ok.bindE (cat_Sealed s hsf _) ?_
  rw [hno]
  unfold g_law03_CertificateBack.j1
  rw [cond_false]
  dsimp only
  have hq : quoI s.Serial 128 = some (s.Serial / 128) := by
    unfold quoI
    rw [if_neg (by decide), Int.tdiv_eq_ediv_of_nonneg hser.1, W_id (by omega)]
  have hrem : remI (W (s.Serial + 1)) 128 = some ((s.Serial + 1) % 128) := by
    unfold remI
    rw [if_neg (by decide), W_id (by omega), Int.tmod_eq_emod_of_nonneg (by omega)]
  refine Ok.bindE hq (Ok.bindE hrem ?_)
  rw [W_id (x := s.Serial / 128 * 128) (by omega), W_id (by omega)]
  have hyf : FitC (withSerial s (s.Serial / 128 * 128 + (s.Serial + 1) % 128)) := by
    have i := hsf.is
    exact fit_mk hsf.names hsf.name hsf.issuer hsf.subject (show I64 _ by unfold I64 withSerial; dsimp only; omega) i.a2 i.a3 i.a4 i.a5 i.a6 i.a7 i.a8 i.a9 i.b1 i.b2
  refine Ok.bindE (cat_Sealed (withSerial s (s.Serial / 128 * 128 + (s.Serial + 1) % 128)) hyf _) ?_
  rw [unsealed hsc hser hs2, Bool.not_false, cond_true]
  refine Ok.bindE (chk y7.1 hf) ?_
  rw [hc, cond_true, decide_eq_true rfl, cond_true]
  refine Ok.bindE (ref_Valid _) ?_
  refine Ok.cond (fun _ => A03) fun hz => ?_
  have hzf : FitC (api_Certificate.mk s.Serial s.Issuer s.Subject (api_Use.mk s.Key.Alg 0) s.KeyId s.Hash s.From s.To s.Authority s.Path s.Names s.Seal) := by
    have i := hsf.is
    exact fit_mk hsf.names hsf.name hsf.issuer hsf.subject i.a1 i.a2 i64_0 i.a4 i.a5 i.a6 i.a7 i.a8 i.a9 i.b1 i.b2
  refine Ok.bindE (chk _ hzf) ?_
  rw [certS_key (c := api_Certificate.mk s.Serial s.Issuer s.Subject (api_Use.mk s.Key.Alg 0) s.KeyId s.Hash s.From s.To s.Authority s.Path s.Names s.Seal) (by show useS ⟨s.Key.Alg, 0⟩ 2 = false; unfold useS; rw [hz]; rfl)]
  rw [cond_false, decide_eq_true rfl, cond_true]
  exact A03
end Go.Proofs.YtlcfdnjokgbccaaGreat
