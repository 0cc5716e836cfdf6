/- Sums of bytes: the law. No program is in sight here. -/
import Derived.Test.YtlcfdnjokgbccaaL3
import Derived.Test.YtlcfdnjokgbccaaC1
import Derived.Test.YtlcfdnjokgbccaaT1
import Derived.KernelRfl
set_option linter.unusedVariables false
set_option linter.unusedSimpArgs false
namespace Go.Proofs.Ytlcfdnjokgbccaa
open Go
theorem awake_law03 : g_law03_awake = some true := c_law03_awake_le (fu := 2000) _ (by kernel_rfl)
def stepB (s : BitVec 32) (e : UInt8) : BitVec 32 := (s ^^^ BitVec.ofNat 32 e.toNat) * 16777619#32
theorem step_eq (s : BitVec 32) (e : UInt8) : IntKind.wrap .u32 ((xorK .u32 (s.toNat : Int) (IntKind.wrap .u32 (e.toNat : Int))) * 16777619) = ((stepB s e).toNat : Int) := by
  have he := e.toNat_lt
  have hx := (s ^^^ BitVec.ofNat 32 e.toNat).isLt
  have h2 : xorK .u32 (s.toNat : Int) (IntKind.wrap .u32 (e.toNat : Int)) = ((s ^^^ BitVec.ofNat 32 e.toNat).toNat : Int) := by
    have h1 : IntKind.wrap .u32 (e.toNat : Int) = (e.toNat : Int) := by rw [IntKind.wrap_u32]; omega
    rw [h1]
    show IntKind.u32.wrap ((BitVec.ofInt 32 (s.toNat : Int) ^^^ BitVec.ofInt 32 (e.toNat : Int)).toNat : Int) = _
    rw [BitVec.ofInt_natCast, BitVec.ofInt_natCast]
    have : BitVec.ofNat 32 s.toNat = s := BitVec.eq_of_toNat_eq (by rw [BitVec.toNat_ofNat]; exact Nat.mod_eq_of_lt s.isLt)
    rw [this, IntKind.wrap_u32]
    omega
  rw [h2]
  unfold stepB
  rw [BitVec.toNat_mul, IntKind.wrap_u32]
  have : (16777619#32).toNat = 16777619 := rfl
  rw [this]
  omega
def sumB (b : List UInt8) : BitVec 32 := b.foldl stepB 2166136261#32
def sumS (b : List UInt8) : Int := ((sumB b).toNat : Int)
theorem fold_step : ∀ (b : List UInt8) (s : BitVec 32), b.foldl (fun (s : Int) (e : UInt8) => IntKind.wrap .u32 ((xorK .u32 s (IntKind.wrap .u32 (e.toNat : Int))) * 16777619)) (s.toNat : Int) = ((b.foldl stepB s).toNat : Int)
  | [], _ => rfl
  | e :: b, s => by rw [List.foldl_cons, step_eq, fold_step b]; rfl
theorem W_sum (s : BitVec 32) : W (s.toNat : Int) = (s.toNat : Int) := by
  have := s.isLt
  exact W_id (by omega)
theorem cat_Sum (b : List UInt8) (h : Lo b) : g_certificate_Sum b = some (sumS b) := by
  unfold g_certificate_Sum
  refine (loop_fold (body := fun q' => g_certificate_Sum.l1 b q'.1 q'.2) b (fun (s : Int) (e : UInt8) => IntKind.wrap .u32 ((xorK .u32 s (IntKind.wrap .u32 (e.toNat : Int))) * 16777619)) 2166136261 W h (fun i x s hx => ?_) (fun s => ?_)).trans ?_
  · show g_certificate_Sum.l1 b s (i : Int) = _
    unfold g_certificate_Sum.l1; rw [for_in hx]
  · show g_certificate_Sum.l1 b s (b.length : Int) = _
    unfold g_certificate_Sum.l1; rw [for_out]; rfl
  · have := fold_step b 2166136261#32
    rw [show ((2166136261#32).toNat : Int) = 2166136261 from rfl] at this
    rw [this, W_sum]; rfl
theorem ref_Sum (b : List UInt8) (h : Lo b) : g_ref03_Sum b = some (sumS b) := by
  unfold g_ref03_Sum
  refine (loop_fold (body := fun q' => g_ref03_Sum.l1 b q'.1 q'.2) b (fun (s : Int) (e : UInt8) => IntKind.wrap .u32 ((xorK .u32 s (IntKind.wrap .u32 (e.toNat : Int))) * 16777619)) 2166136261 W h (fun i x s hx => ?_) (fun s => ?_)).trans ?_
  · show g_ref03_Sum.l1 b s (i : Int) = _
    unfold g_ref03_Sum.l1; rw [for_in hx]
  · show g_ref03_Sum.l1 b s (b.length : Int) = _
    unfold g_ref03_Sum.l1; rw [for_out]; rfl
  · have := fold_step b 2166136261#32
    rw [show ((2166136261#32).toNat : Int) = 2166136261 from rfl] at this
    rw [this, W_sum]; rfl
theorem sumS_range (b : List UInt8) : 0 ≤ sumS b ∧ sumS b < 4294967296 := by
  have := (sumB b).isLt
  unfold sumS; omega
theorem mul_inj {x y : BitVec 32} (h : x * 16777619#32 = y * 16777619#32) : x = y := by
  have h2 := congrArg (· * 899433627#32) h
  simp only [BitVec.mul_assoc] at h2
  rw [show (16777619#32 * 899433627#32) = 1#32 from by decide, BitVec.mul_one, BitVec.mul_one] at h2
  exact h2
theorem step_inj {s t : BitVec 32} {e : UInt8} (h : stepB s e = stepB t e) : s = t := by
  have := mul_inj h
  exact (BitVec.xor_left_inj _).1 this
theorem step_inj' {s : BitVec 32} {e f : UInt8} (h : stepB s e = stepB s f) : e = f := by
  have := (BitVec.xor_right_inj _).1 (mul_inj h)
  have h2 := congrArg BitVec.toNat this
  rw [BitVec.toNat_ofNat, BitVec.toNat_ofNat] at h2
  have := e.toNat_lt
  have := f.toNat_lt
  rw [Nat.mod_eq_of_lt (by omega), Nat.mod_eq_of_lt (by omega)] at h2
  exact UInt8.toNat_inj.1 h2
theorem fold_inj : ∀ (b : List UInt8) {s t : BitVec 32}, b.foldl stepB s = b.foldl stepB t → s = t
  | [], _, _, h => h
  | e :: b, _, _, h => step_inj (fold_inj b h)
theorem sum_set {b : List UInt8} {i : Nat} {e : UInt8} (x : UInt8) (h : b[i]? = some e) : sumS (b.set i x) = sumS b ↔ x = e := by
  have hi := (List.getElem?_eq_some_iff.1 h).1
  have e1 : b = b.take i ++ e :: b.drop (i + 1) := by
    have := List.getElem?_eq_some_iff.1 h
    rw [← this.2, ← List.drop_eq_getElem_cons hi, List.take_append_drop]
  have e2 : b.set i x = b.take i ++ x :: b.drop (i + 1) := List.set_eq_take_append_cons_drop .. |>.trans (if_pos hi)
  constructor
  · intro hs
    unfold sumS at hs
    have hs : sumB (b.set i x) = sumB b := BitVec.eq_of_toNat_eq (by omega)
    unfold sumB at hs
    rw [e2] at hs
    conv at hs => rhs; rw [e1]
    rw [List.foldl_append, List.foldl_append, List.foldl_cons, List.foldl_cons] at hs
    exact step_inj' (fold_inj _ hs)
  · rintro rfl
    rw [e2, ← e1]
theorem mod_ok (e n : Int) (hn : 1 ≤ n) (hn2 : n ≤ 4611686018427387904) : Ok (g_make_Mod e n) (fun y => 0 ≤ y ∧ y < n) := by
  unfold g_make_Mod
  rw [decide_eq_false (by omega), cond_false]
  have h1 := Int.tmod_lt_of_pos e (show 0 < n by omega)
  have h2 : -n < e.tmod n := Int.lt_tmod_of_pos e (by omega)
  have h3 := Int.tmod_lt_of_pos (e.tmod n + n) (show 0 < n by omega)
  have h4 := Int.tmod_nonneg n (show 0 ≤ e.tmod n + n by omega)
  unfold remI
  rw [if_neg (by omega), Option.bind_some, W_id (by omega), if_neg (by omega)]
  exact ⟨_, rfl, h4, h3⟩
theorem law_CertificateSums (x0 : (List UInt8)) (x1 : Int) (x2 : UInt8) (hok : okDs [.sl 1 (encL e8 x0), .val (.int .i64 x1), .val (.int .u8 (x2.toNat : Int))]) : g_law03_CertificateSums x0 x1 x2 = some true := by
  refine Ok.true_ ?_
  have A : Ok (g_law03_awake.bind fun y => some y) (fun r => r = true) := Ok.bindE awake_law03 (Ok.ret rfl)
  unfold g_law03_CertificateSums
  refine Ok.cond (fun _ => A) fun hb => ?_
  have hb := of_decide_eq_false hb
  have hl : Lo x0 := by unfold Lo; omega
  refine Ok.bindE (cat_Sum x0 hl) (Ok.bindE (ref_Sum x0 hl) ?_)
  have hr := sumS_range x0
  rw [decide_eq_true rfl, Bool.not_true, cond_false, decide_eq_false (by omega), cond_false, decide_eq_false (by omega)]
  unfold g_law03_CertificateSums.j1
  rw [cond_false]
  refine Ok.cond (fun _ => A) fun h0 => ?_
  have h0 := of_decide_eq_false h0
  refine Ok.bindE (appI_ok (by rw [List.length_nil]; omega)) ?_
  rw [List.nil_append]
  refine Ok.bind (mod_ok x1 _ (by omega) (by omega)) fun i hi => ?_
  obtain ⟨e, he, hat⟩ := getI_ok (l := x0) hi.1 hi.2
  refine Ok.bindE he (Ok.bindE (cat_Sum _ (by unfold Lo setI; rw [List.length_set]; omega)) (Ok.bindE he ?_))
  have := sum_set x2 hat
  have e3 : decide (decide (sumS (setI x0 i.toNat x2) = sumS x0) = decide ((x2.toNat : Int) = (e.toNat : Int))) = true := by
    refine decide_eq_true ?_
    unfold setI
    by_cases h : x2 = e
    · rw [decide_eq_true (this.2 h), h, decide_eq_true rfl]
    · rw [decide_eq_false (fun q => h (this.1 q)), decide_eq_false (fun q => h (UInt8.toNat_inj.1 (by omega)))]
  rw [e3]
  exact A
end Go.Proofs.Ytlcfdnjokgbccaa
