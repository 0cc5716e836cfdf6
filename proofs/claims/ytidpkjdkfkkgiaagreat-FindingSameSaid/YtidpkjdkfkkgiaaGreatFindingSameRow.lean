import Derived.Test.YtidpkjdkfkkgiaaGreatA11
import Derived.Test.YtidpkjdkfkkgiaaGreatG3
import Derived.Test.YtidpkjdkfkkgiaaGreatOP
import Derived.Test.YtidpkjdkfkkgiaaGreatOW
import Derived.Test.YtidpkjdkfkkgiaaGreatRows
import Derived.WalkKit
import Derived.Lib.SmallJoins
import Derived.ProofKit
import Derived.OpenShut
import Derived.ShutString
import Derived.ChangeOld
import Derived.Below
set_option linter.unusedSimpArgs false
set_option linter.unusedVariables false
namespace Go.Proofs.YtidpkjdkfkkgiaaGreat.findingSame
open Go.ChangeShapes Go.WideShapes Go.ChangeAt Go.RowKit
open Go.ChangeMaps (open_string shut_string)
theorem op3 : Opn Tryz.prog 3 eI := fun _ => Wq.i64 Tryz.underlying3
theorem aD2 : Opn Tryz.prog 22 (eL 1 eI) := fun k => by
 cases k with
 | zero => exact Wq.zero
 | succ k => exact Wq.slice Tryz.underlying22 (by kernel_rfl) (by omega) (fun x => It x) (op3 k)
theorem own : ownKnob Tryz.prog.godebug = none := by kernel_rfl
theorem uD : laidOutB Tryz.prog = true := by kernel_rfl
theorem aEx (v0 : Value) (x0 : (List Int)) (w : World) (h0 : ∀ ρ, Cq ρ (lt w.heap.size) w (.sl 1 (Aq eI x0)) v0) :
  Calls Tryz.prog 3 #[v0] w fun e w' => e = .returned (.bool true) /\ Below w.heap.size w w' := by
 have hr : B0 (fun _ => .nilFunc) (lt w.heap.size) w [.sl 1 (Aq eI x0)] [v0] := iL (h0 (fun _ => .nilFunc)) (lF)
 exact Fn.plain (vs := [_]) (Su x0 true (Wu x0)) (fun r b h => h.1) (fun _ => .nilFunc) (lt w.heap.size) (fun _ h => h) hr
set_option maxRecDepth 100000 in
theorem yG (os : Os) (started : os.Started) (H : Type) (enc : TypeId × Value -> H) :
  ReturnsInHanded {} Tryz.checked os 3 .any (Rows.findingSameSpec.pre6 enc Tryz.prog Tryz.f3 Rows.findingSameRow.domain false) (Rows.findingSameSpec.post enc Tryz.prog Tryz.f3 false true false false) := by
 refine returnsInHanded_of_change (C := Tryz.checked) own started (by kernel_rfl) Tryz.func3
  (ChangeSpec.witness6 (enc := enc) (C := Tryz.checked) false ⟨#[], #[.slice none 0 0], []⟩ 8 (by kernel_rfl) (by kernel_rfl) (by kernel_rfl) (by kernel_rfl)) ?_
 intro W base args ds gs before hval0 hW hcnd _
 have hval : ∀ (j : Nat) t v, Tryz.f3.params[j]? = some t -> args[j]? = some v -> Value.okWide Tryz.prog W .any base t v := hval0
 have hW' := hW
 obtain ⟨p, q, hA0, hV, rfl, hfz, hnd⟩ := hW
 have hA : DataW.TrodAll enc Tryz.prog W 0 (fun _ => true) true Tryz.f3.params.toList args.toList ds p := hA0
 rw [Tryz.params3] at hA hval
 obtain ⟨v0, vs0, d0, ds0, p0, q0, hargs, rfl, rfl, h0, r0⟩ := trodAll_cons hA
 obtain ⟨rfl, rfl, rfl⟩ := trodAll_nil r0
 obtain rfl : args = #[v0] := by cases args; simp_all
 obtain ⟨rfl, rfl⟩ := trodVars_none hV
 have k0 := h0
 have lt0 : ∀ x ∈ p0, x.block < W.heap.size := by obtain ⟨m, hm⟩ := k0; exact DataW.trod_lt m _ _ _ hm
 obtain ⟨a0, len0, cap0, rfl⟩ := okWide_slice Tryz.underlying22 (hval 0 22 v0 rfl rfl)
 obtain ⟨x0, w0⟩ := tB (c := fun a => .sl 1 (Aq eI a)) aD2 (fun _ => rfl) rfl h0
 clear hA0 hval0
 refine (aEx _ x0 W w0).mono fun e W' ⟨he, bel⟩ => ?_
 subst he
 exact ⟨_, rfl, _, _, _, [], _, [], hW', trodAll_mk1 (shut_bool Tryz.underlying4 _), (trodAll_cons_mk (Below.trod uD (by kernel_rfl) (of_decide_eq_true (by kernel_rfl)) k0 bel lt0) trodAll_mk0), rfl, bel.frame _, fun h => by cases h⟩
theorem aDu : Rows.findingSameRow.holds Tryz.pinned (OpenSpec.ofChange Rows.findingSameSpec) :=
 OpenClaim.holds_of_wide 3 Tryz.f3 rfl rfl rfl rfl rfl rfl rfl ⟨rfl, rfl, rfl, rfl, rfl⟩ rfl rfl rfl rfl rfl (by kernel_rfl) Tryz.func3 (by kernel_rfl)
  (of_decide_eq_true (by kernel_rfl)) (by unfold Func.isWrapper; first | (rw [if_pos (by decide +kernel)]; kernel_rfl) | (rw [if_neg (by decide +kernel)]; exact ⟨rfl, rfl⟩))
  (fun os started H enc _ => yG os started H enc)
theorem proved : Rows.FindingSameSaid := aDu
#print axioms proved
end Go.Proofs.YtidpkjdkfkkgiaaGreat.findingSame
