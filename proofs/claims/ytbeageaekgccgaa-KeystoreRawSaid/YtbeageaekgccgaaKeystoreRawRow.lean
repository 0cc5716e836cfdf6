/- The law KeystoreRaw holds for every input: its Go function returns true, and what came in reads as before. Conditions: none. -/
import Derived.Test.YtbeageaekgccgaaA6
import Derived.Test.YtbeageaekgccgaaE3
import Derived.Test.YtbeageaekgccgaaOP
import Derived.Test.YtbeageaekgccgaaOW
import Derived.Test.YtbeageaekgccgaaRows
import Derived.WalkKit
import Derived.Lib.SmallJoins
import Derived.ProofKit
import Derived.OpenShut
import Derived.ShutString
import Derived.ChangeOld
import Derived.Below
set_option linter.unusedSimpArgs false
set_option linter.unusedVariables false
namespace Go.Proofs.Ytbeageaekgccgaa.keystoreRaw
open Go.ChangeShapes Go.WideShapes Go.ChangeAt Go.RowKit
open Go.ChangeMaps (open_string shut_string)

theorem op9 : Opn Try.prog 9 eS := fun _ => OpK.str Try.underlying9
theorem op3 : Opn Try.prog 3 eI := fun _ => OpK.i64 Try.underlying3
theorem op25 : Opn Try.prog 25 api_Use.enc := by
  intro k
  intro H enc w fuel cs x hk h
  obtain ⟨xs, n, hn, -, hl, hx, hF⟩ := DataW.trod_struct Try.underlying25 h
  have hlen : cs.length = 2 := hl.trans (by kernel_rfl)
  obtain ⟨a0, r0⟩ := OpK.field (q := 1) hx hF 0 rfl rfl rfl (by kernel_rfl) (op3 fuel) (by omega)
  obtain ⟨a1, r1⟩ := OpK.field (q := 1) hx hF 1 rfl rfl rfl (by kernel_rfl) (op3 fuel) (by omega)
  refine ⟨⟨a0, a1⟩, ?_⟩
  exact RdUs.cut (o := 0) (o' := 1) r0 (RdUs.cut (o := 1) (o' := 2) r1 (RdUs.end_ (o := 2) (by omega)) rfl) rfl
theorem op4 : Opn Try.prog 4 eB := fun _ => OpK.bool Try.underlying4
theorem op51 : Opn Try.prog 51 (eL 1 eS) := fun k => by
  cases k with
  | zero => exact OpK.zero
  | succ k => exact OpK.slice Try.underlying51 (by kernel_rfl) (by omega) (fun x => eS_len x) (op9 k)
theorem op62 : Opn Try.prog 62 api_Seal.enc := by
  intro k
  intro H enc w fuel cs x hk h
  obtain ⟨xs, n, hn, -, hl, hx, hF⟩ := DataW.trod_struct Try.underlying62 h
  have hlen : cs.length = 2 := hl.trans (by kernel_rfl)
  obtain ⟨a0, r0⟩ := OpK.field (q := 1) hx hF 0 rfl rfl rfl (by kernel_rfl) (op3 fuel) (by omega)
  obtain ⟨a1, r1⟩ := OpK.field (q := 1) hx hF 1 rfl rfl rfl (by kernel_rfl) (op3 fuel) (by omega)
  refine ⟨⟨a0, a1⟩, ?_⟩
  exact RdUs.cut (o := 0) (o' := 1) r0 (RdUs.cut (o := 1) (o' := 2) r1 (RdUs.end_ (o := 2) (by omega)) rfl) rfl
theorem op64 : Opn Try.prog 64 api_Certificate.enc := by
  intro k
  intro H enc w fuel cs x hk h
  obtain ⟨xs, n, hn, -, hl, hx, hF⟩ := DataW.trod_struct Try.underlying64 h
  have hlen : cs.length = 15 := hl.trans (by kernel_rfl)
  obtain ⟨a0, r0⟩ := OpK.field (q := 1) hx hF 0 rfl rfl rfl (by kernel_rfl) (op3 fuel) (by omega)
  obtain ⟨a1, r1⟩ := OpK.field (q := 1) hx hF 1 rfl rfl rfl (by kernel_rfl) (op9 fuel) (by omega)
  obtain ⟨a2, r2⟩ := OpK.field (q := 1) hx hF 2 rfl rfl rfl (by kernel_rfl) (op9 fuel) (by omega)
  obtain ⟨a3, r3⟩ := OpK.field (q := 2) hx hF 3 rfl rfl rfl (by kernel_rfl) (op25 fuel) (by omega)
  obtain ⟨a4, r4⟩ := OpK.field (q := 1) hx hF 4 rfl rfl rfl (by kernel_rfl) (op3 fuel) (by omega)
  obtain ⟨a5, r5⟩ := OpK.field (q := 2) hx hF 5 rfl rfl rfl (by kernel_rfl) (op25 fuel) (by omega)
  obtain ⟨a6, r6⟩ := OpK.field (q := 1) hx hF 6 rfl rfl rfl (by kernel_rfl) (op3 fuel) (by omega)
  obtain ⟨a7, r7⟩ := OpK.field (q := 1) hx hF 7 rfl rfl rfl (by kernel_rfl) (op3 fuel) (by omega)
  obtain ⟨a8, r8⟩ := OpK.field (q := 1) hx hF 8 rfl rfl rfl (by kernel_rfl) (op4 fuel) (by omega)
  obtain ⟨a9, r9⟩ := OpK.field (q := 1) hx hF 9 rfl rfl rfl (by kernel_rfl) (op3 fuel) (by omega)
  obtain ⟨a10, r10⟩ := OpK.field (q := 1) hx hF 10 rfl rfl rfl (by kernel_rfl) (op51 fuel) (by omega)
  obtain ⟨a11, r11⟩ := OpK.field (q := 2) hx hF 11 rfl rfl rfl (by kernel_rfl) (op62 fuel) (by omega)
  refine ⟨⟨a0, a1, a2, a3, a4, a5, a6, a7, a8, a9, a10, a11⟩, ?_⟩
  exact RdUs.cut (o := 0) (o' := 1) r0 (RdUs.cut (o := 1) (o' := 2) r1 (RdUs.cut (o := 2) (o' := 3) r2 (RdUs.cut (o := 3) (o' := 5) r3 (RdUs.cut (o := 5) (o' := 6) r4 (RdUs.cut (o := 6) (o' := 8) r5 (RdUs.cut (o := 8) (o' := 9) r6 (RdUs.cut (o := 9) (o' := 10) r7 (RdUs.cut (o := 10) (o' := 11) r8 (RdUs.cut (o := 11) (o' := 12) r9 (RdUs.cut (o := 12) (o' := 13) r10 (RdUs.cut (o := 13) (o' := 15) r11 (RdUs.end_ (o := 15) (by omega)) rfl) rfl) rfl) rfl) rfl) rfl) rfl) rfl) rfl) rfl) rfl) rfl
theorem op26 : Opn Try.prog 26 (eL 15 api_Certificate.enc) := fun k => by
  cases k with
  | zero => exact OpK.zero
  | succ k => exact OpK.slice Try.underlying26 (by kernel_rfl) (by omega) (fun x => api_Certificate.enc_len x) (op64 k)
theorem op28 : Opn Try.prog 28 api_Entry.enc := by
  intro k
  intro H enc w fuel cs x hk h
  obtain ⟨xs, n, hn, -, hl, hx, hF⟩ := DataW.trod_struct Try.underlying28 h
  have hlen : cs.length = 6 := hl.trans (by kernel_rfl)
  obtain ⟨a0, r0⟩ := OpK.field (q := 1) hx hF 0 rfl rfl rfl (by kernel_rfl) (op9 fuel) (by omega)
  obtain ⟨a1, r1⟩ := OpK.field (q := 2) hx hF 1 rfl rfl rfl (by kernel_rfl) (op25 fuel) (by omega)
  obtain ⟨a2, r2⟩ := OpK.field (q := 1) hx hF 2 rfl rfl rfl (by kernel_rfl) (op3 fuel) (by omega)
  obtain ⟨a3, r3⟩ := OpK.field (q := 1) hx hF 3 rfl rfl rfl (by kernel_rfl) (op4 fuel) (by omega)
  obtain ⟨a4, r4⟩ := OpK.field (q := 1) hx hF 4 rfl rfl rfl (by kernel_rfl) (op26 fuel) (by omega)
  refine ⟨⟨a0, a1, a2, a3, a4⟩, ?_⟩
  exact RdUs.cut (o := 0) (o' := 1) r0 (RdUs.cut (o := 1) (o' := 3) r1 (RdUs.cut (o := 3) (o' := 4) r2 (RdUs.cut (o := 4) (o' := 5) r3 (RdUs.cut (o := 5) (o' := 6) r4 (RdUs.end_ (o := 6) (by omega)) rfl) rfl) rfl) rfl) rfl
theorem op22 : Opn Try.prog 22 (eL 6 api_Entry.enc) := fun k => by
  cases k with
  | zero => exact OpK.zero
  | succ k => exact OpK.slice Try.underlying22 (by kernel_rfl) (by omega) (fun x => api_Entry.enc_len x) (op28 k)
theorem own : ownKnob Try.prog.godebug = none := by kernel_rfl
theorem laidOut : laidOutB Try.prog = true := by kernel_rfl
theorem walk (v0 v1 : Value) (x0 : (List api_Entry)) (x1 : (List api_Entry)) (w : World) (h0 : ∀ ρ, Rep ρ (lt w.heap.size) w (.sl 6 (encL api_Entry.enc x0)) v0) (h1 : ∀ ρ, Rep ρ (lt w.heap.size) w (.sl 6 (encL api_Entry.enc x1)) v1) :
    Calls Try.prog 3 #[v0, v1] w fun e w' => e = .returned (.bool true) ∧ Below w.heap.size w w' := by
  have hr : RepL (fun _ => .nilFunc) (lt w.heap.size) w [.sl 6 (encL api_Entry.enc x0), .sl 6 (encL api_Entry.enc x1)] [v0, v1] := repL_cons' (h0 (fun _ => .nilFunc)) (repL_cons' (h1 (fun _ => .nilFunc)) (repL_nil'))
  exact Fn.plain (vs := [_, _]) (w_law05_KeystoreRaw x0 x1 true (law_KeystoreRaw x0 x1 (RepL.okV_ _ _ hr))) (fun r b h => h.1) (fun _ => .nilFunc) (lt w.heap.size) (fun _ h => h) hr
set_option maxRecDepth 100000 in
theorem lifted (os : Os) (started : os.Started) (H : Type) (enc : TypeId × Value → H) :
    ReturnsInHanded {} Try.checked os 3 .any (Rows.keystoreRawSpec.pre6 enc Try.prog Try.f3 Rows.keystoreRawRow.domain false) (Rows.keystoreRawSpec.post enc Try.prog Try.f3 false true false false) := by
  refine returnsInHanded_of_change (C := Try.checked) own started (by kernel_rfl) Try.func3
    (ChangeSpec.witness6 (enc := enc) (C := Try.checked) false ⟨#[], #[.slice none 0 0, .slice none 0 0], []⟩ 8 (by kernel_rfl) (by kernel_rfl) (by kernel_rfl) (by kernel_rfl)) ?_
  intro W base args ds gs before hval0 hW hcnd _
  have hval : ∀ (j : Nat) t v, Try.f3.params[j]? = some t → args[j]? = some v → Value.okWide Try.prog W .any base t v := hval0
  have hW' := hW
  obtain ⟨p, q, hA0, hV, rfl, hfz, hnd⟩ := hW
  have hA : DataW.TrodAll enc Try.prog W 0 (fun _ => true) true Try.f3.params.toList args.toList ds p := hA0
  rw [Try.params3] at hA hval
  obtain ⟨v0, vs0, d0, ds0, p0, q0, hargs, rfl, rfl, h0, r0⟩ := trodAll_cons hA
  obtain ⟨v1, vs1, d1, ds1, p1, q1, rfl, rfl, rfl, h1, r1⟩ := trodAll_cons r0
  obtain ⟨rfl, rfl, rfl⟩ := trodAll_nil r1
  obtain rfl : args = #[v0, v1] := by cases args; simp_all
  obtain ⟨rfl, rfl⟩ := trodVars_none hV
  have k0 := h0
  have k1 := h1
  have lt0 : ∀ x ∈ p0, x.block < W.heap.size := by obtain ⟨m, hm⟩ := k0; exact DataW.trod_lt m _ _ _ hm
  have lt1 : ∀ x ∈ p1, x.block < W.heap.size := by obtain ⟨m, hm⟩ := k1; exact DataW.trod_lt m _ _ _ hm
  obtain ⟨a0, len0, cap0, rfl⟩ := okWide_slice Try.underlying22 (hval 0 22 v0 rfl rfl)
  obtain ⟨x0, w0⟩ := arg_one (c := fun a => .sl 6 (encL api_Entry.enc a)) op22 (fun _ => rfl) rfl h0
  obtain ⟨a1, len1, cap1, rfl⟩ := okWide_slice Try.underlying22 (hval 1 22 v1 rfl rfl)
  obtain ⟨x1, w1⟩ := arg_one (c := fun a => .sl 6 (encL api_Entry.enc a)) op22 (fun _ => rfl) rfl h1
  clear hA0 hval0
  refine (walk _ _ x0 x1 W w0 w1).mono fun e W' ⟨he, bel⟩ => ?_
  subst he
  exact ⟨_, rfl, _, _, _, [], _, [], hW', trodAll_mk1 (shut_bool Try.underlying4 _), (trodAll_cons_mk (Below.trod laidOut (by kernel_rfl) (of_decide_eq_true (by kernel_rfl)) k0 bel lt0) (trodAll_cons_mk (Below.trod laidOut (by kernel_rfl) (of_decide_eq_true (by kernel_rfl)) k1 bel lt1) trodAll_mk0)), rfl, bel.frame _, fun h => by cases h⟩
theorem over : Rows.keystoreRawRow.holds Try.pinned (OpenSpec.ofChange Rows.keystoreRawSpec) :=
  OpenClaim.holds_of_wide 3 Try.f3 rfl rfl rfl rfl rfl rfl rfl ⟨rfl, rfl, rfl, rfl, rfl⟩ rfl rfl rfl rfl rfl (by kernel_rfl) Try.func3 (by kernel_rfl)
    (of_decide_eq_true (by kernel_rfl)) (by unfold Func.isWrapper; first | (rw [if_pos (by decide +kernel)]; kernel_rfl) | (rw [if_neg (by decide +kernel)]; exact ⟨rfl, rfl⟩))
    (fun os started H enc _ => lifted os started H enc)

/-- The statement. -/
theorem proved : Rows.KeystoreRawSaid := over
#print axioms proved
end Go.Proofs.Ytbeageaekgccgaa.keystoreRaw
