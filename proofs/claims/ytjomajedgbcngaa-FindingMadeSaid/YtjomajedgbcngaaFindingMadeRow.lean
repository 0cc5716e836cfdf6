import Derived.Test.YtjomajedgbcngaaA8
import Derived.Test.YtjomajedgbcngaaA8
import Derived.Test.YtjomajedgbcngaaF6
import Derived.Test.YtjomajedgbcngaaOP
import Derived.Test.YtjomajedgbcngaaOW
import Derived.Test.YtjomajedgbcngaaOP
import Derived.Test.YtjomajedgbcngaaOW
import Derived.Test.YtjomajedgbcngaaRows
import Derived.WalkKit
import Derived.Lib.SmallJoins
import Derived.ProofKit
import Derived.OpenShut
import Derived.ShutString
import Derived.ChangeOld
import Derived.Below
set_option linter.unusedSimpArgs false
set_option linter.unusedVariables false
namespace Go.Proofs.Ytjomajedgbcngaa.findingMade
open Go.ChangeShapes Go.WideShapes Go.ChangeAt Go.RowKit
open Go.ChangeMaps (open_string shut_string)
theorem Zj : dK Try.prog 3 eI := fun _ => Ld.i64 Try.underlying3
theorem aI : dK Try.prog 22 (eL 1 eI) := fun k => by
 cases k with
 | zero => exact Ld.zero
 | succ k => exact Ld.slice Try.underlying22 (by kernel_rfl) (by omega) (fun x => H0 x) (Zj k)
theorem pF : dK Try.prog 9 eS := fun _ => Ld.str Try.underlying9
theorem pB : dK Try.prog 28 Bk.enc := by
 intro k
 intro H enc w fuel cs x hk h
 obtain ⟨xs, n, hn, -, hl, hx, hF⟩ := DataW.trod_struct Try.underlying28 h
 have hlen : cs.length = 2 := hl.trans (by kernel_rfl)
 obtain ⟨a0, r0⟩ := Ld.field (q := 1) hx hF 0 rfl rfl rfl (by kernel_rfl) (Zj fuel) (by omega)
 obtain ⟨a1, r1⟩ := Ld.field (q := 1) hx hF 1 rfl rfl rfl (by kernel_rfl) (Zj fuel) (by omega)
 refine ⟨⟨a0, a1⟩, ?_⟩
 exact Dz.cut (o := 0) (o' := 1) r0 (Dz.cut (o := 1) (o' := 2) r1 (Dz.end_ (o := 2) (by omega)) rfl) rfl
theorem qA : dK Try.prog 30 Aa.enc := by
 intro k
 intro H enc w fuel cs x hk h
 obtain ⟨xs, n, hn, -, hl, hx, hF⟩ := DataW.trod_struct Try.underlying30 h
 have hlen : cs.length = 11 := hl.trans (by kernel_rfl)
 obtain ⟨a0, r0⟩ := Ld.field (q := 1) hx hF 0 rfl rfl rfl (by kernel_rfl) (Zj fuel) (by omega)
 obtain ⟨a1, r1⟩ := Ld.field (q := 1) hx hF 1 rfl rfl rfl (by kernel_rfl) (pF fuel) (by omega)
 obtain ⟨a2, r2⟩ := Ld.field (q := 1) hx hF 2 rfl rfl rfl (by kernel_rfl) (Zj fuel) (by omega)
 obtain ⟨a3, r3⟩ := Ld.field (q := 1) hx hF 3 rfl rfl rfl (by kernel_rfl) (Zj fuel) (by omega)
 obtain ⟨a4, r4⟩ := Ld.field (q := 1) hx hF 4 rfl rfl rfl (by kernel_rfl) (Zj fuel) (by omega)
 obtain ⟨a5, r5⟩ := Ld.field (q := 1) hx hF 5 rfl rfl rfl (by kernel_rfl) (Zj fuel) (by omega)
 obtain ⟨a6, r6⟩ := Ld.field (q := 1) hx hF 6 rfl rfl rfl (by kernel_rfl) (pF fuel) (by omega)
 obtain ⟨a7, r7⟩ := Ld.field (q := 2) hx hF 7 rfl rfl rfl (by kernel_rfl) (pB fuel) (by omega)
 obtain ⟨a8, r8⟩ := Ld.field (q := 1) hx hF 8 rfl rfl rfl (by kernel_rfl) (Zj fuel) (by omega)
 obtain ⟨a9, r9⟩ := Ld.field (q := 1) hx hF 9 rfl rfl rfl (by kernel_rfl) (pF fuel) (by omega)
 refine ⟨⟨a0, a1, a2, a3, a4, a5, a6, a7, a8, a9⟩, ?_⟩
 exact Dz.cut (o := 0) (o' := 1) r0 (Dz.cut (o := 1) (o' := 2) r1 (Dz.cut (o := 2) (o' := 3) r2 (Dz.cut (o := 3) (o' := 4) r3 (Dz.cut (o := 4) (o' := 5) r4 (Dz.cut (o := 5) (o' := 6) r5 (Dz.cut (o := 6) (o' := 7) r6 (Dz.cut (o := 7) (o' := 9) r7 (Dz.cut (o := 9) (o' := 10) r8 (Dz.cut (o := 10) (o' := 11) r9 (Dz.end_ (o := 11) (by omega)) rfl) rfl) rfl) rfl) rfl) rfl) rfl) rfl) rfl) rfl
theorem qC : dK Try.prog 33 (eL 11 Aa.enc) := fun k => by
 cases k with
 | zero => exact Ld.zero
 | succ k => exact Ld.slice Try.underlying33 (by kernel_rfl) (by omega) (fun x => Aa.enc_len x) (qA k)
theorem nB : ownKnob Try.prog.godebug = none := by kernel_rfl
theorem O3 : laidOutB Try.prog = true := by kernel_rfl
theorem bJ (v0 v1 : Value) (x0 : (List Int)) (x1 : (List Aa)) (w : World) (h0 : ∀ ρ, B9 ρ (lt w.heap.size) w (.sl 1 (Az eI x0)) v0) (h1 : ∀ ρ, B9 ρ (lt w.heap.size) w (.sl 11 (Az Aa.enc x1)) v1) :
  Calls Try.prog 4 #[v0, v1] w fun e w' => e = .returned (.bool true) /\ Below w.heap.size w w' := by
 have hr : Bw (fun _ => .nilFunc) (lt w.heap.size) w [.sl 1 (Az eI x0), .sl 11 (Az Aa.enc x1)] [v0, v1] := Mw (h0 (fun _ => .nilFunc)) (Mw (h1 (fun _ => .nilFunc)) (Rc))
 exact Fn.plain (vs := [_, _]) (Pe x0 x1 true (Sa x0 x1 (Bw.okV_ _ _ hr))) (fun r b h => h.1) (fun _ => .nilFunc) (lt w.heap.size) (fun _ h => h) hr
set_option maxRecDepth 100000 in
theorem Sp (os : Os) (started : os.Started) (H : Type) (enc : TypeId × Value -> H) :
  ReturnsInHanded {} Try.checked os 4 .any (Rows.findingMadeSpec.pre6 enc Try.prog Try.f4 Rows.findingMadeRow.domain false) (Rows.findingMadeSpec.post enc Try.prog Try.f4 false true false false) := by
 refine returnsInHanded_of_change (C := Try.checked) nB started (by kernel_rfl) Try.func4
  (ChangeSpec.witness6 (enc := enc) (C := Try.checked) false ⟨#[], #[.slice none 0 0, .slice none 0 0], []⟩ 8 (by kernel_rfl) (by kernel_rfl) (by kernel_rfl) (by kernel_rfl)) ?_
 intro W base args ds gs before hval0 hW hcnd _
 have hval : ∀ (j : Nat) t v, Try.f4.params[j]? = some t -> args[j]? = some v -> Value.okWide Try.prog W .any base t v := hval0
 have hW' := hW
 obtain ⟨p, q, hA0, hV, rfl, hfz, hnd⟩ := hW
 have hA : DataW.TrodAll enc Try.prog W 0 (fun _ => true) true Try.f4.params.toList args.toList ds p := hA0
 rw [Try.params4] at hA hval
 obtain ⟨v0, vs0, d0, ds0, p0, q0, hargs, rfl, rfl, h0, r0⟩ := trodAll_cons hA
 obtain ⟨v1, vs1, d1, ds1, p1, q1, rfl, rfl, rfl, h1, r1⟩ := trodAll_cons r0
 obtain ⟨rfl, rfl, rfl⟩ := trodAll_nil r1
 obtain rfl : args = #[v0, v1] := by cases args; simp_all
 obtain ⟨rfl, rfl⟩ := trodVars_none hV
 have k0 := h0
 have k1 := h1
 have lt0 : ∀ x ∈ p0, x.block < W.heap.size := by obtain ⟨m, hm⟩ := k0; exact DataW.trod_lt m _ _ _ hm
 have lt1 : ∀ x ∈ p1, x.block < W.heap.size := by obtain ⟨m, hm⟩ := k1; exact DataW.trod_lt m _ _ _ hm
 obtain ⟨a0, len0, cap0, rfl⟩ := okWide_slice Try.underlying22 (hval 0 22 v0 rfl rfl)
 obtain ⟨x0, w0⟩ := Se (c := fun a => .sl 1 (Az eI a)) aI (fun _ => rfl) rfl h0
 obtain ⟨a1, len1, cap1, rfl⟩ := okWide_slice Try.underlying33 (hval 1 33 v1 rfl rfl)
 obtain ⟨x1, w1⟩ := Se (c := fun a => .sl 11 (Az Aa.enc a)) qC (fun _ => rfl) rfl h1
 clear hA0 hval0
 refine (bJ _ _ x0 x1 W w0 w1).mono fun e W' ⟨he, bel⟩ => ?_
 subst he
 exact ⟨_, rfl, _, _, _, [], _, [], hW', trodAll_mk1 (shut_bool Try.underlying4 _), (trodAll_cons_mk (Below.trod O3 (by kernel_rfl) (of_decide_eq_true (by kernel_rfl)) k0 bel lt0) (trodAll_cons_mk (Below.trod O3 (by kernel_rfl) (of_decide_eq_true (by kernel_rfl)) k1 bel lt1) trodAll_mk0)), rfl, bel.frame _, fun h => by cases h⟩
theorem cH : Rows.findingMadeRow.holds Try.pinned (OpenSpec.ofChange Rows.findingMadeSpec) :=
 OpenClaim.holds_of_wide 4 Try.f4 rfl rfl rfl rfl rfl rfl rfl ⟨rfl, rfl, rfl, rfl, rfl⟩ rfl rfl rfl rfl rfl (by kernel_rfl) Try.func4 (by kernel_rfl)
  (of_decide_eq_true (by kernel_rfl)) (by unfold Func.isWrapper; first | (rw [if_pos (by decide +kernel)]; kernel_rfl) | (rw [if_neg (by decide +kernel)]; exact ⟨rfl, rfl⟩))
  (fun os started H enc _ => Sp os started H enc)
theorem proved : Rows.FindingMadeSaid := cH
#print axioms proved
end Go.Proofs.Ytjomajedgbcngaa.findingMade
