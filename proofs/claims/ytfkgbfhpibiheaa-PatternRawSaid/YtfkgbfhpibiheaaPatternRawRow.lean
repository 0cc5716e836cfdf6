/- The law PatternRaw holds for every input: its Go function returns true, and what came in reads as before. Conditions: none. -/
import Derived.Test.YtfkgbfhpibiheaaA5
import Derived.Test.YtfkgbfhpibiheaaZ9
import Derived.Test.YtfkgbfhpibiheaaA5
import Derived.Test.YtfkgbfhpibiheaaOP
import Derived.Test.YtfkgbfhpibiheaaOW
import Derived.Test.YtfkgbfhpibiheaaRows
import Derived.WalkKit
import Derived.Lib.SmallJoins
import Derived.ProofKit
import Derived.OpenShut
import Derived.ShutString
import Derived.ChangeOld
import Derived.Below
set_option linter.unusedSimpArgs false
set_option linter.unusedVariables false
namespace Go.Proofs.Ytfkgbfhpibiheaa.patternRaw
open Go.ChangeShapes Go.WideShapes Go.ChangeAt Go.RowKit
open Go.ChangeMaps (open_string shut_string)

theorem op3 : Opn Try.prog 3 eI := fun _ => OpK.i64 Try.underlying3
theorem op43 : Opn Try.prog 43 api_Use.enc := by
  intro k
  intro H enc w fuel cs x hk h
  obtain ⟨xs, n, hn, -, hl, hx, hF⟩ := DataW.trod_struct Try.underlying43 h
  have hlen : cs.length = 2 := hl.trans (by kernel_rfl)
  obtain ⟨a0, r0⟩ := OpK.field (q := 1) hx hF 0 rfl rfl rfl (by kernel_rfl) (op3 fuel) (by omega)
  obtain ⟨a1, r1⟩ := OpK.field (q := 1) hx hF 1 rfl rfl rfl (by kernel_rfl) (op3 fuel) (by omega)
  refine ⟨⟨a0, a1⟩, ?_⟩
  exact RdUs.cut (o := 0) (o' := 1) r0 (RdUs.cut (o := 1) (o' := 2) r1 (RdUs.end_ (o := 2) (by omega)) rfl) rfl
theorem op5 : Opn Try.prog 5 e8 := fun _ => OpK.u8 Try.underlying5
theorem op27 : Opn Try.prog 27 (eL 1 e8) := fun k => by
  cases k with
  | zero => exact OpK.zero
  | succ k => exact OpK.slice Try.underlying27 (by kernel_rfl) (by omega) (fun x => e8_len x) (op5 k)
theorem op45 : Opn Try.prog 45 api_Pattern.enc := by
  intro k
  intro H enc w fuel cs x hk h
  obtain ⟨xs, n, hn, -, hl, hx, hF⟩ := DataW.trod_struct Try.underlying45 h
  have hlen : cs.length = 3 := hl.trans (by kernel_rfl)
  obtain ⟨a0, r0⟩ := OpK.field (q := 2) hx hF 0 rfl rfl rfl (by kernel_rfl) (op43 fuel) (by omega)
  obtain ⟨a1, r1⟩ := OpK.field (q := 1) hx hF 1 rfl rfl rfl (by kernel_rfl) (op27 fuel) (by omega)
  refine ⟨⟨a0, a1⟩, ?_⟩
  exact RdUs.cut (o := 0) (o' := 2) r0 (RdUs.cut (o := 2) (o' := 3) r1 (RdUs.end_ (o := 3) (by omega)) rfl) rfl
theorem op30 : Opn Try.prog 30 (eL 3 api_Pattern.enc) := fun k => by
  cases k with
  | zero => exact OpK.zero
  | succ k => exact OpK.slice Try.underlying30 (by kernel_rfl) (by omega) (fun x => api_Pattern.enc_len x) (op45 k)
theorem own : ownKnob Try.prog.godebug = none := by kernel_rfl
theorem laidOut : laidOutB Try.prog = true := by kernel_rfl
theorem walk (v0 v1 : Value) (x0 : (List api_Pattern)) (x1 : (List UInt8)) (w : World) (h0 : ∀ ρ, Rep ρ (lt w.heap.size) w (.sl 3 (encL api_Pattern.enc x0)) v0) (h1 : ∀ ρ, Rep ρ (lt w.heap.size) w (.sl 1 (encL e8 x1)) v1) :
    Calls Try.prog 4 #[v0, v1] w fun e w' => e = .returned (.bool true) ∧ Below w.heap.size w w' := by
  have hr : RepL (fun _ => .nilFunc) (lt w.heap.size) w [.sl 3 (encL api_Pattern.enc x0), .sl 1 (encL e8 x1)] [v0, v1] := repL_cons' (h0 (fun _ => .nilFunc)) (repL_cons' (h1 (fun _ => .nilFunc)) (repL_nil'))
  exact Fn.plain (vs := [_, _]) (w_law11_PatternRaw x0 x1 true (law_PatternRaw x0 x1)) (fun r b h => h.1) (fun _ => .nilFunc) (lt w.heap.size) (fun _ h => h) hr
set_option maxRecDepth 100000 in
theorem lifted (os : Os) (started : os.Started) (H : Type) (enc : TypeId × Value → H) :
    ReturnsInHanded {} Try.checked os 4 .any (Rows.patternRawSpec.pre6 enc Try.prog Try.f4 Rows.patternRawRow.domain false) (Rows.patternRawSpec.post enc Try.prog Try.f4 false true false false) := by
  refine returnsInHanded_of_change (C := Try.checked) own started (by kernel_rfl) Try.func4
    (ChangeSpec.witness6 (enc := enc) (C := Try.checked) false ⟨#[], #[.slice none 0 0, .slice none 0 0], []⟩ 8 (by kernel_rfl) (by kernel_rfl) (by kernel_rfl) (by kernel_rfl)) ?_
  intro W base args ds gs before hval0 hW hcnd _
  have hval : ∀ (j : Nat) t v, Try.f4.params[j]? = some t → args[j]? = some v → Value.okWide Try.prog W .any base t v := hval0
  have hW' := hW
  obtain ⟨p, q, hA0, hV, rfl, hfz, hnd⟩ := hW
  have hA : DataW.TrodAll enc Try.prog W 0 (fun _ => true) true Try.f4.params.toList args.toList ds p := hA0
  rw [Try.params4] at hA hval
  obtain ⟨v0, vs0, d0, ds0, p0, q0, hargs, rfl, rfl, h0, r0⟩ := trodAll_cons hA
  obtain ⟨v1, vs1, d1, ds1, p1, q1, rfl, rfl, rfl, h1, r1⟩ := trodAll_cons r0
  obtain ⟨rfl, rfl, rfl⟩ := trodAll_nil r1
  obtain rfl : args = #[v0, v1] := by cases args; simp_all
  obtain ⟨rfl, rfl⟩ := trodVars_none hV
  have k0 := h0
  have k1 := h1
  have lt0 : ∀ x ∈ p0, x.block < W.heap.size := by obtain ⟨m, hm⟩ := k0; exact DataW.trod_lt m _ _ _ hm
  have lt1 : ∀ x ∈ p1, x.block < W.heap.size := by obtain ⟨m, hm⟩ := k1; exact DataW.trod_lt m _ _ _ hm
  obtain ⟨a0, len0, cap0, rfl⟩ := okWide_slice Try.underlying30 (hval 0 30 v0 rfl rfl)
  obtain ⟨x0, w0⟩ := arg_one (c := fun a => .sl 3 (encL api_Pattern.enc a)) op30 (fun _ => rfl) rfl h0
  obtain ⟨a1, len1, cap1, rfl⟩ := okWide_slice Try.underlying27 (hval 1 27 v1 rfl rfl)
  obtain ⟨x1, w1⟩ := arg_one (c := fun a => .sl 1 (encL e8 a)) op27 (fun _ => rfl) rfl h1
  clear hA0 hval0
  refine (walk _ _ x0 x1 W w0 w1).mono fun e W' ⟨he, bel⟩ => ?_
  subst he
  exact ⟨_, rfl, _, _, _, [], _, [], hW', trodAll_mk1 (shut_bool Try.underlying4 _), (trodAll_cons_mk (Below.trod laidOut (by kernel_rfl) (of_decide_eq_true (by kernel_rfl)) k0 bel lt0) (trodAll_cons_mk (Below.trod laidOut (by kernel_rfl) (of_decide_eq_true (by kernel_rfl)) k1 bel lt1) trodAll_mk0)), rfl, bel.frame _, fun h => by cases h⟩
theorem over : Rows.patternRawRow.holds Try.pinned (OpenSpec.ofChange Rows.patternRawSpec) :=
  OpenClaim.holds_of_wide 4 Try.f4 rfl rfl rfl rfl rfl rfl rfl ⟨rfl, rfl, rfl, rfl, rfl⟩ rfl rfl rfl rfl rfl (by kernel_rfl) Try.func4 (by kernel_rfl)
    (of_decide_eq_true (by kernel_rfl)) (by unfold Func.isWrapper; first | (rw [if_pos (by decide +kernel)]; kernel_rfl) | (rw [if_neg (by decide +kernel)]; exact ⟨rfl, rfl⟩))
    (fun os started H enc _ => lifted os started H enc)

/-- The statement. -/
theorem proved : Rows.PatternRawSaid := over
#print axioms proved
end Go.Proofs.Ytfkgbfhpibiheaa.patternRaw
