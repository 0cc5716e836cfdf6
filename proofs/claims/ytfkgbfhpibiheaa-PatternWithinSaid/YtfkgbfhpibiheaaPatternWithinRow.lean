/- The law PatternWithin holds for every input: its Go function returns true, and what came in reads as before. Conditions: none. -/
import Derived.Test.YtfkgbfhpibiheaaA6
import Derived.Test.YtfkgbfhpibiheaaZB
import Derived.Test.YtfkgbfhpibiheaaA6
import Derived.Test.YtfkgbfhpibiheaaOP
import Derived.Test.YtfkgbfhpibiheaaOW
import Derived.Test.YtfkgbfhpibiheaaRows
import Derived.WalkKit
import Derived.Lib.SmallJoins
import Derived.ProofKit
import Derived.OpenShut
import Derived.ShutString
import Derived.ChangeOld
import Derived.Below
set_option linter.unusedSimpArgs false
set_option linter.unusedVariables false
namespace Go.Proofs.Ytfkgbfhpibiheaa.patternWithin
open Go.ChangeShapes Go.WideShapes Go.ChangeAt Go.RowKit
open Go.ChangeMaps (open_string shut_string)

theorem op3 : Opn Try.prog 3 eI := fun _ => OpK.i64 Try.underlying3
theorem op22 : Opn Try.prog 22 (eL 1 eI) := fun k => by
  cases k with
  | zero => exact OpK.zero
  | succ k => exact OpK.slice Try.underlying22 (by kernel_rfl) (by omega) (fun x => eI_len x) (op3 k)
theorem own : ownKnob Try.prog.godebug = none := by kernel_rfl
theorem laidOut : laidOutB Try.prog = true := by kernel_rfl
theorem walk (v0 : Value) (x0 : (List Int)) (w : World) (h0 : ∀ ρ, Rep ρ (lt w.heap.size) w (.sl 1 (encL eI x0)) v0) :
    Calls Try.prog 6 #[v0] w fun e w' => e = .returned (.bool true) ∧ Below w.heap.size w w' := by
  have hr : RepL (fun _ => .nilFunc) (lt w.heap.size) w [.sl 1 (encL eI x0)] [v0] := repL_cons' (h0 (fun _ => .nilFunc)) (repL_nil')
  exact Fn.plain (vs := [_]) (w_law11_PatternWithin x0 true (law_PatternWithin x0)) (fun r b h => h.1) (fun _ => .nilFunc) (lt w.heap.size) (fun _ h => h) hr
set_option maxRecDepth 100000 in
theorem lifted (os : Os) (started : os.Started) (H : Type) (enc : TypeId × Value → H) :
    ReturnsInHanded {} Try.checked os 6 .any (Rows.patternWithinSpec.pre6 enc Try.prog Try.f6 Rows.patternWithinRow.domain false) (Rows.patternWithinSpec.post enc Try.prog Try.f6 false true false false) := by
  refine returnsInHanded_of_change (C := Try.checked) own started (by kernel_rfl) Try.func6
    (ChangeSpec.witness6 (enc := enc) (C := Try.checked) false ⟨#[], #[.slice none 0 0], []⟩ 8 (by kernel_rfl) (by kernel_rfl) (by kernel_rfl) (by kernel_rfl)) ?_
  intro W base args ds gs before hval0 hW hcnd _
  have hval : ∀ (j : Nat) t v, Try.f6.params[j]? = some t → args[j]? = some v → Value.okWide Try.prog W .any base t v := hval0
  have hW' := hW
  obtain ⟨p, q, hA0, hV, rfl, hfz, hnd⟩ := hW
  have hA : DataW.TrodAll enc Try.prog W 0 (fun _ => true) true Try.f6.params.toList args.toList ds p := hA0
  rw [Try.params6] at hA hval
  obtain ⟨v0, vs0, d0, ds0, p0, q0, hargs, rfl, rfl, h0, r0⟩ := trodAll_cons hA
  obtain ⟨rfl, rfl, rfl⟩ := trodAll_nil r0
  obtain rfl : args = #[v0] := by cases args; simp_all
  obtain ⟨rfl, rfl⟩ := trodVars_none hV
  have k0 := h0
  have lt0 : ∀ x ∈ p0, x.block < W.heap.size := by obtain ⟨m, hm⟩ := k0; exact DataW.trod_lt m _ _ _ hm
  obtain ⟨a0, len0, cap0, rfl⟩ := okWide_slice Try.underlying22 (hval 0 22 v0 rfl rfl)
  obtain ⟨x0, w0⟩ := arg_one (c := fun a => .sl 1 (encL eI a)) op22 (fun _ => rfl) rfl h0
  clear hA0 hval0
  refine (walk _ x0 W w0).mono fun e W' ⟨he, bel⟩ => ?_
  subst he
  exact ⟨_, rfl, _, _, _, [], _, [], hW', trodAll_mk1 (shut_bool Try.underlying4 _), (trodAll_cons_mk (Below.trod laidOut (by kernel_rfl) (of_decide_eq_true (by kernel_rfl)) k0 bel lt0) trodAll_mk0), rfl, bel.frame _, fun h => by cases h⟩
theorem over : Rows.patternWithinRow.holds Try.pinned (OpenSpec.ofChange Rows.patternWithinSpec) :=
  OpenClaim.holds_of_wide 6 Try.f6 rfl rfl rfl rfl rfl rfl rfl ⟨rfl, rfl, rfl, rfl, rfl⟩ rfl rfl rfl rfl rfl (by kernel_rfl) Try.func6 (by kernel_rfl)
    (of_decide_eq_true (by kernel_rfl)) (by unfold Func.isWrapper; first | (rw [if_pos (by decide +kernel)]; kernel_rfl) | (rw [if_neg (by decide +kernel)]; exact ⟨rfl, rfl⟩))
    (fun os started H enc _ => lifted os started H enc)

/-- The statement. -/
theorem proved : Rows.PatternWithinSaid := over
#print axioms proved
end Go.Proofs.Ytfkgbfhpibiheaa.patternWithin
