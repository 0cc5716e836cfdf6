/- The law HandshakeMade holds for every input: its Go function returns true, and what came in reads as before. Conditions: none. -/
import Derived.Test.YthjgcmifggdepaaX6
import Derived.Test.YthjgcmifggdepaaArgs
import Derived.Test.YthjgcmifggdepaaRows
import Derived.WalkKit
import Derived.Lib.SmallJoins
import Derived.ProofKit
import Derived.OpenShut
import Derived.ShutString
import Derived.ChangeOld
import Derived.Below
set_option linter.unusedSimpArgs false
namespace Go.Proofs.Ythjgcmifggdepaa.handshakeMade
open Go.ChangeShapes Go.WideShapes Go.ChangeAt Go.RowKit
open Go.ChangeMaps (open_string shut_string)
set_option linter.unusedVariables false

theorem own : ownKnob Try.prog.godebug = none := by kernel_rfl
theorem laidOut : laidOutB Try.prog = true := by kernel_rfl

theorem walk (v0 v1 : Value) (l : List Int) (h : Hl) (c : Ch) (w : World) (h0 : Rd w (.sl 1 (intsC l)) v0) (h1 : RdHv w h v1) :
    Calls Try.prog 3 #[v0, v1, chV c] w fun e w' => e = .returned (.bool true) ∧ Below w.heap.size w w' := by
  have hm : okM h := by obtain ⟨_, _, _, h2, _⟩ := h1; exact h2
  exact Fn.plain (vs := [_, _, _]) (made_fn l h c hm) (fun r b h => h.1) (fun _ => .nilFunc) (lt w.heap.size) (fun _ h => h) (repL_cons (by unfold Rep; exact h0) (repL_cons (rdH_rep h1) (repL_cons rep_cD' repL_nil)))
/-- Numbers that lie behind a field. -/
theorem rd_of {H : Type} {enc : TypeId × Value → H} {W : World} {fuel : Nat} {v : Value} {x : DataW H × List MemPlace} (h : DataW.trod enc Try.prog W 0 (fun _ => true) true fuel 22 [v] = some x) : ∃ l : List Int, Rd W (.sl 1 (intsC l)) v := by
  rcases open_ints Try.underlying22 Try.underlying3 (by kernel_rfl) h with ⟨hcs, _⟩ | ⟨a, n, c, zs, hcs, _, hl, hm, hz, _, hcell, hwz⟩
  · injection hcs with hcs
    subst hcs
    exact ⟨[], RdC.nil_ 1⟩
  · injection hcs with hcs
    subst hcs
    exact row_ints (.inr ⟨_, rfl, hl, hm, by simpa using hz, hcell, hwz⟩)

/-! ### THE ROW's STEP: WRITTEN OUT: LEAVE IT -/
set_option maxRecDepth 100000 in
theorem lifted (os : Os) (started : os.Started) (H : Type) (enc : TypeId × Value → H) :
    ReturnsInHanded {} Try.checked os 3 .any (Rows.handshakeMadeSpec.pre6 enc Try.prog Try.f3 Rows.handshakeMadeRow.domain false) (Rows.handshakeMadeSpec.post enc Try.prog Try.f3 false true false false) := by
  refine returnsInHanded_of_change (C := Try.checked) own started (by kernel_rfl) Try.func3
    (ChangeSpec.witness6 (enc := enc) (C := Try.checked) false ⟨#[], #[.slice none 0 0, .agg #[.int .i64 0, .slice none 0 0, .slice none 0 0], .agg #[.int .i64 0, .int .i64 0, .int .i64 0]], []⟩ 8 (by kernel_rfl) (by kernel_rfl) (by kernel_rfl) (by kernel_rfl)) ?_
  intro W base args ds gs before hval0 hW hcnd _
  have hval : ∀ (j : Nat) t v, Try.f3.params[j]? = some t → args[j]? = some v → Value.okWide Try.prog W .any base t v := hval0
  have hW' := hW
  obtain ⟨p, q, hA0, hV, rfl, hfz, hnd⟩ := hW
  have hA : DataW.TrodAll enc Try.prog W 0 (fun _ => true) true Try.f3.params.toList args.toList ds p := hA0
  rw [Try.params3] at hA hval
  obtain ⟨v0, vs0, d0, ds0, p0, q0, hargs, rfl, rfl, h0, r0⟩ := trodAll_cons hA
  obtain ⟨v1, vs1, d1, ds1, p1, q1, rfl, rfl, rfl, h1, r1⟩ := trodAll_cons r0
  obtain ⟨v2, vs2, d2, ds2, p2, q2, rfl, rfl, rfl, h2, r2⟩ := trodAll_cons r1
  obtain ⟨rfl, rfl, rfl⟩ := trodAll_nil r2
  obtain rfl : args = #[v0, v1, v2] := by cases args; simp_all
  obtain ⟨rfl, rfl⟩ := trodVars_none hV
  have k0 := h0
  have k1 := h1
  have k2 := h2
  have lt0 : ∀ x ∈ p0, x.block < W.heap.size := by obtain ⟨m, hm⟩ := k0; exact DataW.trod_lt m _ _ _ hm
  have lt1 : ∀ x ∈ p1, x.block < W.heap.size := by obtain ⟨m, hm⟩ := k1; exact DataW.trod_lt m _ _ _ hm
  have lt2 : ∀ x ∈ p2, x.block < W.heap.size := by obtain ⟨m, hm⟩ := k2; exact DataW.trod_lt m _ _ _ hm
  obtain ⟨l, w0⟩ : ∃ l : List Int, Rd W (.sl 1 (intsC l)) v0 := by
    obtain ⟨a0, len0, cap0, rfl⟩ := okWide_slice Try.underlying22 (hval 0 22 v0 rfl rfl)
    obtain ⟨fuel, hf⟩ := h0
    exact rd_of hf
  obtain ⟨h, w1⟩ : ∃ h : Hl, RdHv W h v1 := by
    obtain ⟨u0, u1, u2, y0, y1, y2, n, rfl, -, -, t0, t1, t2⟩ := Go.Joins.open_agg3 Try.underlying24 (by kernel_rfl) (by kernel_rfl) (hval 1 24 v1 rfl rfl) h1
    obtain ⟨m, e0, -, hm⟩ := DataW.trod_int Try.underlying3 t0
    injection e0 with e0
    subst e0
    obtain ⟨su, hs⟩ := rd_of t1
    obtain ⟨ha, hh⟩ := rd_of t2
    exact ⟨⟨m, su, ha⟩, _, _, rfl, i64_wf hm, hs, hh⟩
  obtain ⟨c, rfl⟩ : ∃ c : Ch, v2 = chV c := by
    obtain ⟨u0, u1, u2, y0, y1, y2, n, rfl, -, -, t0, t1, t2⟩ := Go.Joins.open_agg3 Try.underlying26 (by kernel_rfl) (by kernel_rfl) (hval 2 26 v2 rfl rfl) h2
    obtain ⟨a, e0, -, -⟩ := DataW.trod_int Try.underlying3 t0
    obtain ⟨b, e1, -, -⟩ := DataW.trod_int Try.underlying3 t1
    obtain ⟨d, e2, -, -⟩ := DataW.trod_int Try.underlying3 t2
    injection e0 with e0
    injection e1 with e1
    injection e2 with e2
    subst e0 e1 e2
    exact ⟨⟨a, b, d⟩, rfl⟩
  clear hA0 hval0
  refine (walk v0 v1 l h c W w0 w1).mono fun e W' ⟨he, bel⟩ => ?_
  subst he
  exact ⟨_, rfl, _, _, _, [], _, [], hW', trodAll_mk1 (shut_bool Try.underlying4 _), (trodAll_cons_mk (Below.trod laidOut (by kernel_rfl) (of_decide_eq_true (by kernel_rfl)) k0 bel lt0) (trodAll_cons_mk (Below.trod laidOut (by kernel_rfl) (of_decide_eq_true (by kernel_rfl)) k1 bel lt1) (trodAll_cons_mk (Below.trod laidOut (by kernel_rfl) (of_decide_eq_true (by kernel_rfl)) k2 bel lt2) trodAll_mk0))), rfl, bel.frame _, fun h => by cases h⟩

theorem over : Rows.handshakeMadeRow.holds Try.pinned (OpenSpec.ofChange Rows.handshakeMadeSpec) :=
  OpenClaim.holds_of_wide 3 Try.f3 rfl rfl rfl rfl rfl rfl rfl ⟨rfl, rfl, rfl, rfl, rfl⟩ rfl rfl rfl rfl rfl (by kernel_rfl) Try.func3 (by kernel_rfl)
    (of_decide_eq_true (by kernel_rfl)) (by unfold Func.isWrapper; first | (rw [if_pos (by decide +kernel)]; kernel_rfl) | (rw [if_neg (by decide +kernel)]; exact ⟨rfl, rfl⟩))
    (fun os started H enc _ => lifted os started H enc)

/-- ████ THE STATEMENT ████ -/
theorem proved : Rows.HandshakeMadeSaid := over
#print axioms proved
end Go.Proofs.Ythjgcmifggdepaa.handshakeMade
