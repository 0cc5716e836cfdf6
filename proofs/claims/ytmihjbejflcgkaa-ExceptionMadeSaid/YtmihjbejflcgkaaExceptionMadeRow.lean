/- The law ExceptionMade holds for every input: its Go function returns true, and what came in reads as before. Conditions: none. -/
import Derived.Test.YtmihjbejflcgkaaA5
import Derived.Test.YtmihjbejflcgkaaX10
import Derived.Test.YtmihjbejflcgkaaOP
import Derived.Test.YtmihjbejflcgkaaOW
import Derived.Test.YtmihjbejflcgkaaRows
import Derived.WalkKit
import Derived.Lib.SmallJoins
import Derived.ProofKit
import Derived.OpenShut
import Derived.ShutString
import Derived.ChangeOld
import Derived.Below
set_option linter.unusedSimpArgs false
set_option linter.unusedVariables false
namespace Go.Proofs.Ytmihjbejflcgkaa.exceptionMade
open Go.ChangeShapes Go.WideShapes Go.ChangeAt Go.RowKit
open Go.ChangeMaps (open_string shut_string)

theorem op3 : Opn Try.prog 3 eI := fun _ => OpK.i64 Try.underlying3
theorem op22 : Opn Try.prog 22 (eL 1 eI) := fun k => by
  cases k with
  | zero => exact OpK.zero
  | succ k => exact OpK.slice Try.underlying22 (by kernel_rfl) (by omega) (fun x => eI_len x) (op3 k)
theorem op24 : Opn Try.prog 24 api_Use.enc := by
  intro k
  intro H enc w fuel cs x hk h
  obtain ⟨xs, n, hn, -, hl, hx, hF⟩ := DataW.trod_struct Try.underlying24 h
  have hlen : cs.length = 2 := hl.trans (by kernel_rfl)
  obtain ⟨a0, r0⟩ := OpK.field (q := 1) hx hF 0 rfl rfl rfl (by kernel_rfl) (op3 fuel) (by omega)
  obtain ⟨a1, r1⟩ := OpK.field (q := 1) hx hF 1 rfl rfl rfl (by kernel_rfl) (op3 fuel) (by omega)
  refine ⟨⟨a0, a1⟩, ?_⟩
  exact RdUs.cut (o := 0) (o' := 1) r0 (RdUs.cut (o := 1) (o' := 2) r1 (RdUs.end_ (o := 2) (by omega)) rfl) rfl
theorem op9 : Opn Try.prog 9 eS := fun _ => OpK.str Try.underlying9
theorem op26 : Opn Try.prog 26 api_Span.enc := by
  intro k
  intro H enc w fuel cs x hk h
  obtain ⟨xs, n, hn, -, hl, hx, hF⟩ := DataW.trod_struct Try.underlying26 h
  have hlen : cs.length = 2 := hl.trans (by kernel_rfl)
  obtain ⟨a0, r0⟩ := OpK.field (q := 1) hx hF 0 rfl rfl rfl (by kernel_rfl) (op3 fuel) (by omega)
  obtain ⟨a1, r1⟩ := OpK.field (q := 1) hx hF 1 rfl rfl rfl (by kernel_rfl) (op3 fuel) (by omega)
  refine ⟨⟨a0, a1⟩, ?_⟩
  exact RdUs.cut (o := 0) (o' := 1) r0 (RdUs.cut (o := 1) (o' := 2) r1 (RdUs.end_ (o := 2) (by omega)) rfl) rfl
theorem op65 : Opn Try.prog 65 api_Seal.enc := by
  intro k
  intro H enc w fuel cs x hk h
  obtain ⟨xs, n, hn, -, hl, hx, hF⟩ := DataW.trod_struct Try.underlying65 h
  have hlen : cs.length = 2 := hl.trans (by kernel_rfl)
  obtain ⟨a0, r0⟩ := OpK.field (q := 1) hx hF 0 rfl rfl rfl (by kernel_rfl) (op3 fuel) (by omega)
  obtain ⟨a1, r1⟩ := OpK.field (q := 1) hx hF 1 rfl rfl rfl (by kernel_rfl) (op3 fuel) (by omega)
  refine ⟨⟨a0, a1⟩, ?_⟩
  exact RdUs.cut (o := 0) (o' := 1) r0 (RdUs.cut (o := 1) (o' := 2) r1 (RdUs.end_ (o := 2) (by omega)) rfl) rfl
theorem op27 : Opn Try.prog 27 (eL 2 api_Seal.enc) := fun k => by
  cases k with
  | zero => exact OpK.zero
  | succ k => exact OpK.slice Try.underlying27 (by kernel_rfl) (by omega) (fun x => api_Seal.enc_len x) (op65 k)
theorem op29 : Opn Try.prog 29 api_Exception.enc := by
  intro k
  intro H enc w fuel cs x hk h
  obtain ⟨xs, n, hn, -, hl, hx, hF⟩ := DataW.trod_struct Try.underlying29 h
  have hlen : cs.length = 7 := hl.trans (by kernel_rfl)
  obtain ⟨a0, r0⟩ := OpK.field (q := 2) hx hF 0 rfl rfl rfl (by kernel_rfl) (op24 fuel) (by omega)
  obtain ⟨a1, r1⟩ := OpK.field (q := 1) hx hF 1 rfl rfl rfl (by kernel_rfl) (op3 fuel) (by omega)
  obtain ⟨a2, r2⟩ := OpK.field (q := 1) hx hF 2 rfl rfl rfl (by kernel_rfl) (op9 fuel) (by omega)
  obtain ⟨a3, r3⟩ := OpK.field (q := 2) hx hF 3 rfl rfl rfl (by kernel_rfl) (op26 fuel) (by omega)
  obtain ⟨a4, r4⟩ := OpK.field (q := 1) hx hF 4 rfl rfl rfl (by kernel_rfl) (op27 fuel) (by omega)
  refine ⟨⟨a0, a1, a2, a3, a4⟩, ?_⟩
  exact RdUs.cut (o := 0) (o' := 2) r0 (RdUs.cut (o := 2) (o' := 3) r1 (RdUs.cut (o := 3) (o' := 4) r2 (RdUs.cut (o := 4) (o' := 6) r3 (RdUs.cut (o := 6) (o' := 7) r4 (RdUs.end_ (o := 7) (by omega)) rfl) rfl) rfl) rfl) rfl
theorem own : ownKnob Try.prog.godebug = none := by kernel_rfl
theorem laidOut : laidOutB Try.prog = true := by kernel_rfl
theorem walk (v0 v1 v2 : Value) (x0 : (List Int)) (x1 : api_Exception) (x2 : Int) (w : World) (h0 : ∀ ρ, Rep ρ (lt w.heap.size) w (.sl 1 (encL eI x0)) v0) (h1 : ∀ ρ, Rep ρ (lt w.heap.size) w (.agg (api_Exception.dv x1)) v1) (h2 : ∀ ρ, Rep ρ (lt w.heap.size) w (.val (.int .i64 x2)) v2) :
    Calls Try.prog 3 #[v0, v1, v2] w fun e w' => e = .returned (.bool true) ∧ Below w.heap.size w w' := by
  have hr : RepL (fun _ => .nilFunc) (lt w.heap.size) w [.sl 1 (encL eI x0), .agg (api_Exception.dv x1), .val (.int .i64 x2)] [v0, v1, v2] := repL_cons' (h0 (fun _ => .nilFunc)) (repL_cons' (h1 (fun _ => .nilFunc)) (repL_cons' (h2 (fun _ => .nilFunc)) (repL_nil')))
  exact Fn.plain (vs := [_, _, _]) (w_law19_ExceptionMade x0 x1 x2 true (law_ExceptionMade x0 x1 x2 (RepL.okV_ _ _ hr))) (fun r b h => h.1) (fun _ => .nilFunc) (lt w.heap.size) (fun _ h => h) hr
set_option maxRecDepth 100000 in
theorem lifted (os : Os) (started : os.Started) (H : Type) (enc : TypeId × Value → H) :
    ReturnsInHanded {} Try.checked os 3 .any (Rows.exceptionMadeSpec.pre6 enc Try.prog Try.f3 Rows.exceptionMadeRow.domain false) (Rows.exceptionMadeSpec.post enc Try.prog Try.f3 false true false false) := by
  refine returnsInHanded_of_change (C := Try.checked) own started (by kernel_rfl) Try.func3
    (ChangeSpec.witness6 (enc := enc) (C := Try.checked) false ⟨#[], #[.slice none 0 0, .agg #[.int .i64 0, .int .i64 0, .int .i64 0, .string ByteArray.empty, .int .i64 0, .int .i64 0, .slice none 0 0], .int .i64 0], []⟩ 8 (by kernel_rfl) (by kernel_rfl) (by kernel_rfl) (by kernel_rfl)) ?_
  intro W base args ds gs before hval0 hW hcnd _
  have hval : ∀ (j : Nat) t v, Try.f3.params[j]? = some t → args[j]? = some v → Value.okWide Try.prog W .any base t v := hval0
  have hW' := hW
  obtain ⟨p, q, hA0, hV, rfl, hfz, hnd⟩ := hW
  have hA : DataW.TrodAll enc Try.prog W 0 (fun _ => true) true Try.f3.params.toList args.toList ds p := hA0
  rw [Try.params3] at hA hval
  obtain ⟨v0, vs0, d0, ds0, p0, q0, hargs, rfl, rfl, h0, r0⟩ := trodAll_cons hA
  obtain ⟨v1, vs1, d1, ds1, p1, q1, rfl, rfl, rfl, h1, r1⟩ := trodAll_cons r0
  obtain ⟨v2, vs2, d2, ds2, p2, q2, rfl, rfl, rfl, h2, r2⟩ := trodAll_cons r1
  obtain ⟨rfl, rfl, rfl⟩ := trodAll_nil r2
  obtain rfl : args = #[v0, v1, v2] := by cases args; simp_all
  obtain ⟨rfl, rfl⟩ := trodVars_none hV
  have k0 := h0
  have k1 := h1
  have k2 := h2
  have lt0 : ∀ x ∈ p0, x.block < W.heap.size := by obtain ⟨m, hm⟩ := k0; exact DataW.trod_lt m _ _ _ hm
  have lt1 : ∀ x ∈ p1, x.block < W.heap.size := by obtain ⟨m, hm⟩ := k1; exact DataW.trod_lt m _ _ _ hm
  have lt2 : ∀ x ∈ p2, x.block < W.heap.size := by obtain ⟨m, hm⟩ := k2; exact DataW.trod_lt m _ _ _ hm
  obtain ⟨a0, len0, cap0, rfl⟩ := okWide_slice Try.underlying22 (hval 0 22 v0 rfl rfl)
  obtain ⟨x0, w0⟩ := arg_one (c := fun a => .sl 1 (encL eI a)) op22 (fun _ => rfl) rfl h0
  obtain ⟨cs1, rfl, -⟩ := okWide_struct Try.underlying29 (hval 1 29 v1 rfl rfl)
  obtain ⟨x1, w1⟩ := arg_agg op29 (fun a c hc => by simp only [api_Exception.enc, List.mem_cons, List.not_mem_nil, or_false] at hc; rcases hc with rfl | rfl | rfl | rfl | rfl | rfl | rfl <;> rfl) h1
  obtain ⟨a2, rfl⟩ := okWide_int Try.underlying3 (hval 2 3 v2 rfl rfl)
  obtain ⟨x2, w2⟩ := arg_one (c := fun (a : Int) => .int .i64 a) op3 (fun _ => rfl) rfl h2
  clear hA0 hval0
  refine (walk _ _ _ x0 x1 x2 W w0 w1 w2).mono fun e W' ⟨he, bel⟩ => ?_
  subst he
  exact ⟨_, rfl, _, _, _, [], _, [], hW', trodAll_mk1 (shut_bool Try.underlying4 _), (trodAll_cons_mk (Below.trod laidOut (by kernel_rfl) (of_decide_eq_true (by kernel_rfl)) k0 bel lt0) (trodAll_cons_mk (Below.trod laidOut (by kernel_rfl) (of_decide_eq_true (by kernel_rfl)) k1 bel lt1) (trodAll_cons_mk (Below.trod laidOut (by kernel_rfl) (of_decide_eq_true (by kernel_rfl)) k2 bel lt2) trodAll_mk0))), rfl, bel.frame _, fun h => by cases h⟩
theorem over : Rows.exceptionMadeRow.holds Try.pinned (OpenSpec.ofChange Rows.exceptionMadeSpec) :=
  OpenClaim.holds_of_wide 3 Try.f3 rfl rfl rfl rfl rfl rfl rfl ⟨rfl, rfl, rfl, rfl, rfl⟩ rfl rfl rfl rfl rfl (by kernel_rfl) Try.func3 (by kernel_rfl)
    (of_decide_eq_true (by kernel_rfl)) (by unfold Func.isWrapper; first | (rw [if_pos (by decide +kernel)]; kernel_rfl) | (rw [if_neg (by decide +kernel)]; exact ⟨rfl, rfl⟩))
    (fun os started H enc _ => lifted os started H enc)

/-- The statement. -/
theorem proved : Rows.ExceptionMadeSaid := over
#print axioms proved
end Go.Proofs.Ytmihjbejflcgkaa.exceptionMade
