/- The law CertificateMade holds for every input: its Go function returns true, and what came in reads as before. Conditions: none. -/
import Derived.Test.YtlcfdnjokgbccaaGreatA8
import Derived.Test.YtlcfdnjokgbccaaGreatQ4
import Derived.Test.YtlcfdnjokgbccaaGreatOP
import Derived.Test.YtlcfdnjokgbccaaGreatOW
import Derived.Test.YtlcfdnjokgbccaaGreatRows
import Derived.WalkKit
import Derived.Lib.SmallJoins
import Derived.ProofKit
import Derived.OpenShut
import Derived.ShutString
import Derived.ChangeOld
import Derived.Below
set_option linter.unusedSimpArgs false
set_option linter.unusedVariables false
namespace Go.Proofs.YtlcfdnjokgbccaaGreat.certificateMade
open Go.ChangeShapes Go.WideShapes Go.ChangeAt Go.RowKit
open Go.ChangeMaps (open_string shut_string)

theorem op3 : Opn Tryz.prog 3 eI := fun _ => OpK.i64 Tryz.underlying3
theorem op22 : Opn Tryz.prog 22 (eL 1 eI) := fun k => by
  cases k with
  | zero => exact OpK.zero
  | succ k => exact OpK.slice Tryz.underlying22 (by kernel_rfl) (by omega) (fun x => eI_len x) (op3 k)
theorem op9 : Opn Tryz.prog 9 eS := fun _ => OpK.str Tryz.underlying9
theorem op28 : Opn Tryz.prog 28 api_Use.enc := by
  intro k
  intro H enc w fuel cs x hk h
  obtain ⟨xs, n, hn, -, hl, hx, hF⟩ := DataW.trod_struct Tryz.underlying28 h
  have hlen : cs.length = 2 := hl.trans (by kernel_rfl)
  obtain ⟨a0, r0⟩ := OpK.field (q := 1) hx hF 0 rfl rfl rfl (by kernel_rfl) (op3 fuel) (by omega)
  obtain ⟨a1, r1⟩ := OpK.field (q := 1) hx hF 1 rfl rfl rfl (by kernel_rfl) (op3 fuel) (by omega)
  refine ⟨⟨a0, a1⟩, ?_⟩
  exact RdUs.cut (o := 0) (o' := 1) r0 (RdUs.cut (o := 1) (o' := 2) r1 (RdUs.end_ (o := 2) (by omega)) rfl) rfl
theorem op4 : Opn Tryz.prog 4 eB := fun _ => OpK.bool Tryz.underlying4
theorem op29 : Opn Tryz.prog 29 (eL 1 eS) := fun k => by
  cases k with
  | zero => exact OpK.zero
  | succ k => exact OpK.slice Tryz.underlying29 (by kernel_rfl) (by omega) (fun x => eS_len x) (op9 k)
theorem op31 : Opn Tryz.prog 31 api_Seal.enc := by
  intro k
  intro H enc w fuel cs x hk h
  obtain ⟨xs, n, hn, -, hl, hx, hF⟩ := DataW.trod_struct Tryz.underlying31 h
  have hlen : cs.length = 2 := hl.trans (by kernel_rfl)
  obtain ⟨a0, r0⟩ := OpK.field (q := 1) hx hF 0 rfl rfl rfl (by kernel_rfl) (op3 fuel) (by omega)
  obtain ⟨a1, r1⟩ := OpK.field (q := 1) hx hF 1 rfl rfl rfl (by kernel_rfl) (op3 fuel) (by omega)
  refine ⟨⟨a0, a1⟩, ?_⟩
  exact RdUs.cut (o := 0) (o' := 1) r0 (RdUs.cut (o := 1) (o' := 2) r1 (RdUs.end_ (o := 2) (by omega)) rfl) rfl
theorem op33 : Opn Tryz.prog 33 api_Certificate.enc := by
  intro k
  intro H enc w fuel cs x hk h
  obtain ⟨xs, n, hn, -, hl, hx, hF⟩ := DataW.trod_struct Tryz.underlying33 h
  have hlen : cs.length = 15 := hl.trans (by kernel_rfl)
  obtain ⟨a0, r0⟩ := OpK.field (q := 1) hx hF 0 rfl rfl rfl (by kernel_rfl) (op3 fuel) (by omega)
  obtain ⟨a1, r1⟩ := OpK.field (q := 1) hx hF 1 rfl rfl rfl (by kernel_rfl) (op9 fuel) (by omega)
  obtain ⟨a2, r2⟩ := OpK.field (q := 1) hx hF 2 rfl rfl rfl (by kernel_rfl) (op9 fuel) (by omega)
  obtain ⟨a3, r3⟩ := OpK.field (q := 2) hx hF 3 rfl rfl rfl (by kernel_rfl) (op28 fuel) (by omega)
  obtain ⟨a4, r4⟩ := OpK.field (q := 1) hx hF 4 rfl rfl rfl (by kernel_rfl) (op3 fuel) (by omega)
  obtain ⟨a5, r5⟩ := OpK.field (q := 2) hx hF 5 rfl rfl rfl (by kernel_rfl) (op28 fuel) (by omega)
  obtain ⟨a6, r6⟩ := OpK.field (q := 1) hx hF 6 rfl rfl rfl (by kernel_rfl) (op3 fuel) (by omega)
  obtain ⟨a7, r7⟩ := OpK.field (q := 1) hx hF 7 rfl rfl rfl (by kernel_rfl) (op3 fuel) (by omega)
  obtain ⟨a8, r8⟩ := OpK.field (q := 1) hx hF 8 rfl rfl rfl (by kernel_rfl) (op4 fuel) (by omega)
  obtain ⟨a9, r9⟩ := OpK.field (q := 1) hx hF 9 rfl rfl rfl (by kernel_rfl) (op3 fuel) (by omega)
  obtain ⟨a10, r10⟩ := OpK.field (q := 1) hx hF 10 rfl rfl rfl (by kernel_rfl) (op29 fuel) (by omega)
  obtain ⟨a11, r11⟩ := OpK.field (q := 2) hx hF 11 rfl rfl rfl (by kernel_rfl) (op31 fuel) (by omega)
  refine ⟨⟨a0, a1, a2, a3, a4, a5, a6, a7, a8, a9, a10, a11⟩, ?_⟩
  exact RdUs.cut (o := 0) (o' := 1) r0 (RdUs.cut (o := 1) (o' := 2) r1 (RdUs.cut (o := 2) (o' := 3) r2 (RdUs.cut (o := 3) (o' := 5) r3 (RdUs.cut (o := 5) (o' := 6) r4 (RdUs.cut (o := 6) (o' := 8) r5 (RdUs.cut (o := 8) (o' := 9) r6 (RdUs.cut (o := 9) (o' := 10) r7 (RdUs.cut (o := 10) (o' := 11) r8 (RdUs.cut (o := 11) (o' := 12) r9 (RdUs.cut (o := 12) (o' := 13) r10 (RdUs.cut (o := 13) (o' := 15) r11 (RdUs.end_ (o := 15) (by omega)) rfl) rfl) rfl) rfl) rfl) rfl) rfl) rfl) rfl) rfl) rfl) rfl
theorem own : ownKnob Tryz.prog.godebug = none := by kernel_rfl
theorem laidOut : laidOutB Tryz.prog = true := by kernel_rfl
theorem walk (v0 v1 v2 : Value) (x0 : (List Int)) (x1 : api_Certificate) (x2 : Int) (w : World) (h0 : ∀ ρ, Rep ρ (lt w.heap.size) w (.sl 1 (encL eI x0)) v0) (h1 : ∀ ρ, Rep ρ (lt w.heap.size) w (.agg (api_Certificate.dv x1)) v1) (h2 : ∀ ρ, Rep ρ (lt w.heap.size) w (.val (.int .i64 x2)) v2) :
    Calls Tryz.prog 5 #[v0, v1, v2] w fun e w' => e = .returned (.bool true) ∧ Below w.heap.size w w' := by
  have hr : RepL (fun _ => .nilFunc) (lt w.heap.size) w [.sl 1 (encL eI x0), .agg (api_Certificate.dv x1), .val (.int .i64 x2)] [v0, v1, v2] := repL_cons' (h0 (fun _ => .nilFunc)) (repL_cons' (h1 (fun _ => .nilFunc)) (repL_cons' (h2 (fun _ => .nilFunc)) (repL_nil')))
  exact Fn.plain (vs := [_, _, _]) (w_law03_CertificateMade x0 x1 x2 true (law_CertificateMade x0 x1 x2 (RepL.okV_ _ _ hr))) (fun r b h => h.1) (fun _ => .nilFunc) (lt w.heap.size) (fun _ h => h) hr
set_option maxRecDepth 100000 in
theorem lifted (os : Os) (started : os.Started) (H : Type) (enc : TypeId × Value → H) :
    ReturnsInHanded {} Tryz.checked os 5 .any (Rows.certificateMadeSpec.pre6 enc Tryz.prog Tryz.f5 Rows.certificateMadeRow.domain false) (Rows.certificateMadeSpec.post enc Tryz.prog Tryz.f5 false true false false) := by
  refine returnsInHanded_of_change (C := Tryz.checked) own started (by kernel_rfl) Tryz.func5
    (ChangeSpec.witness6 (enc := enc) (C := Tryz.checked) false ⟨#[], #[.slice none 0 0, .agg #[.int .i64 0, .string ByteArray.empty, .string ByteArray.empty, .int .i64 0, .int .i64 0, .int .i64 0, .int .i64 0, .int .i64 0, .int .i64 0, .int .i64 0, .bool false, .int .i64 0, .slice none 0 0, .int .i64 0, .int .i64 0], .int .i64 0], []⟩ 8 (by kernel_rfl) (by kernel_rfl) (by kernel_rfl) (by kernel_rfl)) ?_
  intro W base args ds gs before hval0 hW hcnd _
  have hval : ∀ (j : Nat) t v, Tryz.f5.params[j]? = some t → args[j]? = some v → Value.okWide Tryz.prog W .any base t v := hval0
  have hW' := hW
  obtain ⟨p, q, hA0, hV, rfl, hfz, hnd⟩ := hW
  have hA : DataW.TrodAll enc Tryz.prog W 0 (fun _ => true) true Tryz.f5.params.toList args.toList ds p := hA0
  rw [Tryz.params5] at hA hval
  obtain ⟨v0, vs0, d0, ds0, p0, q0, hargs, rfl, rfl, h0, r0⟩ := trodAll_cons hA
  obtain ⟨v1, vs1, d1, ds1, p1, q1, rfl, rfl, rfl, h1, r1⟩ := trodAll_cons r0
  obtain ⟨v2, vs2, d2, ds2, p2, q2, rfl, rfl, rfl, h2, r2⟩ := trodAll_cons r1
  obtain ⟨rfl, rfl, rfl⟩ := trodAll_nil r2
  obtain rfl : args = #[v0, v1, v2] := by cases args; simp_all
  obtain ⟨rfl, rfl⟩ := trodVars_none hV
  have k0 := h0
  have k1 := h1
  have k2 := h2
  have lt0 : ∀ x ∈ p0, x.block < W.heap.size := by obtain ⟨m, hm⟩ := k0; exact DataW.trod_lt m _ _ _ hm
  have lt1 : ∀ x ∈ p1, x.block < W.heap.size := by obtain ⟨m, hm⟩ := k1; exact DataW.trod_lt m _ _ _ hm
  have lt2 : ∀ x ∈ p2, x.block < W.heap.size := by obtain ⟨m, hm⟩ := k2; exact DataW.trod_lt m _ _ _ hm
  obtain ⟨a0, len0, cap0, rfl⟩ := okWide_slice Tryz.underlying22 (hval 0 22 v0 rfl rfl)
  obtain ⟨x0, w0⟩ := arg_one (c := fun a => .sl 1 (encL eI a)) op22 (fun _ => rfl) rfl h0
  obtain ⟨cs1, rfl, -⟩ := okWide_struct Tryz.underlying33 (hval 1 33 v1 rfl rfl)
  obtain ⟨x1, w1⟩ := arg_agg op33 (fun a c hc => by simp only [api_Certificate.enc, List.mem_cons, List.not_mem_nil, or_false] at hc; rcases hc with rfl | rfl | rfl | rfl | rfl | rfl | rfl | rfl | rfl | rfl | rfl | rfl | rfl | rfl | rfl <;> rfl) h1
  obtain ⟨a2, rfl⟩ := okWide_int Tryz.underlying3 (hval 2 3 v2 rfl rfl)
  obtain ⟨x2, w2⟩ := arg_one (c := fun (a : Int) => .int .i64 a) op3 (fun _ => rfl) rfl h2
  clear hA0 hval0
  refine (walk _ _ _ x0 x1 x2 W w0 w1 w2).mono fun e W' ⟨he, bel⟩ => ?_
  subst he
  exact ⟨_, rfl, _, _, _, [], _, [], hW', trodAll_mk1 (shut_bool Tryz.underlying4 _), (trodAll_cons_mk (Below.trod laidOut (by kernel_rfl) (of_decide_eq_true (by kernel_rfl)) k0 bel lt0) (trodAll_cons_mk (Below.trod laidOut (by kernel_rfl) (of_decide_eq_true (by kernel_rfl)) k1 bel lt1) (trodAll_cons_mk (Below.trod laidOut (by kernel_rfl) (of_decide_eq_true (by kernel_rfl)) k2 bel lt2) trodAll_mk0))), rfl, bel.frame _, fun h => by cases h⟩
theorem over : Rows.certificateMadeRow.holds Tryz.pinned (OpenSpec.ofChange Rows.certificateMadeSpec) :=
  OpenClaim.holds_of_wide 5 Tryz.f5 rfl rfl rfl rfl rfl rfl rfl ⟨rfl, rfl, rfl, rfl, rfl⟩ rfl rfl rfl rfl rfl (by kernel_rfl) Tryz.func5 (by kernel_rfl)
    (of_decide_eq_true (by kernel_rfl)) (by unfold Func.isWrapper; first | (rw [if_pos (by decide +kernel)]; kernel_rfl) | (rw [if_neg (by decide +kernel)]; exact ⟨rfl, rfl⟩))
    (fun os started H enc _ => lifted os started H enc)

/-- The statement. -/
theorem proved : Rows.CertificateMadeSaid := over
#print axioms proved
end Go.Proofs.YtlcfdnjokgbccaaGreat.certificateMade
