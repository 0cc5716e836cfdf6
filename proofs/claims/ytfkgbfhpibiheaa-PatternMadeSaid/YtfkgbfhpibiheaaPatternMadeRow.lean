import Derived.Test.YtfkgbfhpibiheaaA8
import Derived.Test.YtfkgbfhpibiheaaZE
import Derived.Test.YtfkgbfhpibiheaaOP
import Derived.Test.YtfkgbfhpibiheaaOW
import Derived.Test.YtfkgbfhpibiheaaRows
import Derived.WalkKit
import Derived.Lib.SmallJoins
import Derived.ProofKit
import Derived.OpenShut
import Derived.ShutString
import Derived.ChangeOld
import Derived.Below
set_option linter.unusedSimpArgs false
set_option linter.unusedVariables false
namespace Go.Proofs.Ytfkgbfhpibiheaa.patternMade
open Go.ChangeShapes Go.WideShapes Go.ChangeAt Go.RowKit
open Go.ChangeMaps (open_string shut_string)
theorem xG : vP Try.prog 3 eI := fun _ => Sb.i64 Try.underlying3
theorem vX : vP Try.prog 22 (eL 1 eI) := fun k => by
 cases k with
 | zero => exact Sb.zero
 | succ k => exact Sb.slice Try.underlying22 (by kernel_rfl) (by omega) (fun x => Lg x) (xG k)
theorem xD : vP Try.prog 5 e8 := fun _ => Sb.u8 Try.underlying5
theorem Hm : ownKnob Try.prog.godebug = none := by kernel_rfl
theorem cR : laidOutB Try.prog = true := by kernel_rfl
theorem wO (v0 v1 : Value) (x0 : (List Int)) (x1 : UInt8) (w : World) (h0 : ∀ ρ, Ce ρ (lt w.heap.size) w (.sl 1 (As eI x0)) v0) (h1 : ∀ ρ, Ce ρ (lt w.heap.size) w (.val (.int .u8 (x1.toNat : Int))) v1) :
  Calls Try.prog 7 #[v0, v1] w fun e w' => e = .returned (.bool true) /\ Below w.heap.size w w' := by
 have hr : B2 (fun _ => .nilFunc) (lt w.heap.size) w [.sl 1 (As eI x0), .val (.int .u8 (x1.toNat : Int))] [v0, v1] := U2 (h0 (fun _ => .nilFunc)) (U2 (h1 (fun _ => .nilFunc)) (fS))
 exact Fn.plain (vs := [_, _]) (O1 x0 x1 true (Sp x0 x1)) (fun r b h => h.1) (fun _ => .nilFunc) (lt w.heap.size) (fun _ h => h) hr
set_option maxRecDepth 100000 in
theorem oO (os : Os) (started : os.Started) (H : Type) (enc : TypeId × Value -> H) :
  ReturnsInHanded {} Try.checked os 7 .any (Rows.patternMadeSpec.pre6 enc Try.prog Try.f7 Rows.patternMadeRow.domain false) (Rows.patternMadeSpec.post enc Try.prog Try.f7 false true false false) := by
 refine returnsInHanded_of_change (C := Try.checked) Hm started (by kernel_rfl) Try.func7
  (ChangeSpec.witness6 (enc := enc) (C := Try.checked) false ⟨#[], #[.slice none 0 0, .int .u8 0], []⟩ 8 (by kernel_rfl) (by kernel_rfl) (by kernel_rfl) (by kernel_rfl)) ?_
 intro W base args ds gs before hval0 hW hcnd _
 have hval : ∀ (j : Nat) t v, Try.f7.params[j]? = some t -> args[j]? = some v -> Value.okWide Try.prog W .any base t v := hval0
 have hW' := hW
 obtain ⟨p, q, hA0, hV, rfl, hfz, hnd⟩ := hW
 have hA : DataW.TrodAll enc Try.prog W 0 (fun _ => true) true Try.f7.params.toList args.toList ds p := hA0
 rw [Try.params7] at hA hval
 obtain ⟨v0, vs0, d0, ds0, p0, q0, hargs, rfl, rfl, h0, r0⟩ := trodAll_cons hA
 obtain ⟨v1, vs1, d1, ds1, p1, q1, rfl, rfl, rfl, h1, r1⟩ := trodAll_cons r0
 obtain ⟨rfl, rfl, rfl⟩ := trodAll_nil r1
 obtain rfl : args = #[v0, v1] := by cases args; simp_all
 obtain ⟨rfl, rfl⟩ := trodVars_none hV
 have k0 := h0
 have k1 := h1
 have lt0 : ∀ x ∈ p0, x.block < W.heap.size := by obtain ⟨m, hm⟩ := k0; exact DataW.trod_lt m _ _ _ hm
 have lt1 : ∀ x ∈ p1, x.block < W.heap.size := by obtain ⟨m, hm⟩ := k1; exact DataW.trod_lt m _ _ _ hm
 obtain ⟨a0, len0, cap0, rfl⟩ := okWide_slice Try.underlying22 (hval 0 22 v0 rfl rfl)
 obtain ⟨x0, w0⟩ := cX (c := fun a => .sl 1 (As eI a)) vX (fun _ => rfl) rfl h0
 obtain ⟨a1, rfl⟩ := okWide_int Try.underlying5 (hval 1 5 v1 rfl rfl)
 obtain ⟨x1, w1⟩ := cX (c := fun (a : UInt8) => .int .u8 (a.toNat : Int)) xD (fun _ => rfl) rfl h1
 clear hA0 hval0
 refine (wO _ _ x0 x1 W w0 w1).mono fun e W' ⟨he, bel⟩ => ?_
 subst he
 exact ⟨_, rfl, _, _, _, [], _, [], hW', trodAll_mk1 (shut_bool Try.underlying4 _), (trodAll_cons_mk (Below.trod cR (by kernel_rfl) (xU (by kernel_rfl)) k0 bel lt0) (trodAll_cons_mk (Below.trod cR (by kernel_rfl) (xU (by kernel_rfl)) k1 bel lt1) trodAll_mk0)), rfl, bel.frame _, fun h => by cases h⟩
theorem wA : Rows.patternMadeRow.holds Try.pinned (OpenSpec.ofChange Rows.patternMadeSpec) :=
 OpenClaim.holds_of_wide 7 Try.f7 rfl rfl rfl rfl rfl rfl rfl ⟨rfl, rfl, rfl, rfl, rfl⟩ rfl rfl rfl rfl rfl (by kernel_rfl) Try.func7 (by kernel_rfl)
  (xU (by kernel_rfl)) (by unfold Func.isWrapper; first | (rw [if_pos (by decide +kernel)]; kernel_rfl) | (rw [if_neg (by decide +kernel)]; exact ⟨rfl, rfl⟩))
  (fun os started H enc _ => oO os started H enc)
theorem proved : Rows.PatternMadeSaid := wA
#print axioms proved
end Go.Proofs.Ytfkgbfhpibiheaa.patternMade
