import Derived.Test.YtopkgllcjbpdeaaDoorA7
import Derived.Test.YtopkgllcjbpdeaaDoorOD
import Derived.Test.YtopkgllcjbpdeaaDoorOP
import Derived.Test.YtopkgllcjbpdeaaDoorOW
import Derived.Test.YtopkgllcjbpdeaaDoorGL
import Derived.Test.YtopkgllcjbpdeaaDoorRows
import Derived.Test.YtopkgllcjbpdeaaDoorCards
import Derived.Test.YtopkgllcjbpdeaaDoorTie
import Derived.WalkKit
import Derived.Lib.SmallJoins
import Derived.ProofKit
import Derived.OpenShut
import Derived.ShutString
import Derived.ChangeOld
import Derived.Below
import Derived.SevenTiedAt
import Derived.LaidMore
import Derived.Stop.Joined
set_option linter.unusedSimpArgs false
set_option linter.unusedVariables false
namespace Go.Proofs.YtopkgllcjbpdeaaDoor.orderFirst
open Go.ChangeShapes Go.WideShapes Go.ChangeAt Go.RowKit
open Go.ChangeMaps (open_string shut_string)
theorem dQ : Z5 Tryd.prog 3 eI := fun _ => Lj.i64 Tryd.underlying3
theorem U2 : Z5 Tryd.prog 22 (eL 1 eI) := fun k => by
 cases k with
 | zero => exact Lj.zero
 | succ k => exact Lj.slice Tryd.underlying22 (by kernel_rfl) (by omega) (fun x => G0 x) (dQ k)
theorem qA : Z5 Tryd.prog 5 e8 := fun _ => Lj.u8 Tryd.underlying5
theorem F9 : ownKnob Tryd.prog.godebug = none := by kernel_rfl
theorem Gc : laidOutB Tryd.prog = true := by kernel_rfl
theorem Wi (v0 v1 v2 : Value) (x0 : (List Int)) (x1 : UInt8) (x2 : UInt8) (w : World) (hl : Td (lt w.heap.size) w) (h0 : ∀ ρ, Bw ρ (lt w.heap.size) w (.sl 1 (An eI x0)) v0) (h1 : ∀ ρ, Bw ρ (lt w.heap.size) w (.val (.int .u8 (x1.toNat : Int))) v1) (h2 : ∀ ρ, Bw ρ (lt w.heap.size) w (.val (.int .u8 (x2.toNat : Int))) v2) :
  Calls Tryd.prog 5 #[v0, v1, v2] w fun e w' => e = .returned (.bool true) /\ Below w.heap.size w w' := by
 have hr : Bj (fun _ => .nilFunc) (lt w.heap.size) w [.sl 1 (An eI x0), .val (.int .u8 (x1.toNat : Int)), .val (.int .u8 (x2.toNat : Int))] [v0, v1, v2] := Fh (h0 (fun _ => .nilFunc)) (Fh (h1 (fun _ => .nilFunc)) (Fh (h2 (fun _ => .nilFunc)) (Mc)))
 exact Fn.plain (vs := [_, _, _]) (Pi x0 x1 x2 true (Ul x0 x1 x2)) (fun r b h => h.1) (fun _ => .nilFunc) (lt w.heap.size) (fun _ h => h) hl hr
set_option maxRecDepth 100000 in
theorem Ms (os : Os) (started : os.Started) (H : Type) (enc : TypeId × Value -> H) :
  ReturnsInHanded {} Tryd.checked os 5 .any (fun w args => (Rows.orderFirstSpec.pre enc Tryd.prog Tryd.f5 [] false w args /\ laidMetH Tryd.prog Jq w) /\ sizedMet enc Tryd.prog Tryd.f5 (OpenSpec.ofChange Rows.orderFirstSpec) false w args) (Rows.orderFirstSpec.post enc Tryd.prog Tryd.f5 false true false false) := by
 refine returnsInHanded_of_change_and (C := Tryd.checked) (X := fun w _ => laidMetH Tryd.prog Jq w) (fun _ _ _ hh h => h.of_heap hh) F9 started (by kernel_rfl) Tryd.func5
  (ChangeSpec.witness_shaped (enc := enc) (C := Tryd.checked) (os := os) (X := fun w _ => laidMetH Tryd.prog Jq w) false (World.doorLaid Tryd.prog 400 os) #[.slice none 0 0, .int .u8 0, .int .u8 0] 8 rfl (World.shaped_of_RefB (by kernel_rfl) (by kernel_rfl)) (by kernel_rfl) (by kernel_rfl) (by kernel_rfl) (Nq os _)) ?_
 intro W base args ds gs before hval0 hW _ _ hL _
 have hval : ∀ (j : Nat) t v, Tryd.f5.params[j]? = some t -> args[j]? = some v -> Value.okWide Tryd.prog W .any base t v := hval0
 have hW' := hW
 obtain ⟨p, q, hA0, hV, rfl, hfz, hnd⟩ := hW
 have hA : DataW.TrodAll enc Tryd.prog W 0 (fun _ => true) true Tryd.f5.params.toList args.toList ds p := hA0
 rw [Tryd.params5] at hA hval
 obtain ⟨v0, vs0, d0, ds0, p0, q0, hargs, rfl, rfl, h0, r0⟩ := trodAll_cons hA
 obtain ⟨v1, vs1, d1, ds1, p1, q1, rfl, rfl, rfl, h1, r1⟩ := trodAll_cons r0
 obtain ⟨v2, vs2, d2, ds2, p2, q2, rfl, rfl, rfl, h2, r2⟩ := trodAll_cons r1
 obtain ⟨rfl, rfl, rfl⟩ := trodAll_nil r2
 obtain rfl : args = #[v0, v1, v2] := by cases args; simp_all
 obtain ⟨rfl, rfl⟩ := trodVars_none hV
 have k0 := h0
 have k1 := h1
 have k2 := h2
 have lt0 : ∀ x ∈ p0, x.block < W.heap.size := by obtain ⟨m, hm⟩ := k0; exact DataW.trod_lt m _ _ _ hm
 have lt1 : ∀ x ∈ p1, x.block < W.heap.size := by obtain ⟨m, hm⟩ := k1; exact DataW.trod_lt m _ _ _ hm
 have lt2 : ∀ x ∈ p2, x.block < W.heap.size := by obtain ⟨m, hm⟩ := k2; exact DataW.trod_lt m _ _ _ hm
 obtain ⟨a0, len0, cap0, rfl⟩ := okWide_slice Tryd.underlying22 (hval 0 22 v0 rfl rfl)
 obtain ⟨x0, w0⟩ := H6 (c := fun a => .sl 1 (An eI a)) U2 (fun _ => rfl) rfl h0
 obtain ⟨a1, rfl⟩ := okWide_int Tryd.underlying5 (hval 1 5 v1 rfl rfl)
 obtain ⟨x1, w1⟩ := H6 (c := fun (a : UInt8) => .int .u8 (a.toNat : Int)) qA (fun _ => rfl) rfl h1
 obtain ⟨a2, rfl⟩ := okWide_int Tryd.underlying5 (hval 2 5 v2 rfl rfl)
 obtain ⟨x2, w2⟩ := H6 (c := fun (a : UInt8) => .int .u8 (a.toNat : Int)) qA (fun _ => rfl) rfl h2
 clear hA0 hval0
 refine (Wi _ _ _ x0 x1 x2 W (P4 hL) w0 w1 w2).mono fun e W' ⟨he, bel⟩ => ?_
 subst he
 exact ⟨_, rfl, _, _, _, [], _, [], hW', trodAll_mk1 (shut_bool Tryd.underlying4 _), (trodAll_cons_mk (Below.trod Gc (by kernel_rfl) (of_decide_eq_true (by kernel_rfl)) k0 bel lt0) (trodAll_cons_mk (Below.trod Gc (by kernel_rfl) (of_decide_eq_true (by kernel_rfl)) k1 bel lt1) (trodAll_cons_mk (Below.trod Gc (by kernel_rfl) (of_decide_eq_true (by kernel_rfl)) k2 bel lt2) trodAll_mk0))), rfl, bel.frame _, fun h => by cases h⟩
theorem Wv : Rows.orderFirstRow.holds Tryd.pinned (OpenSpec.ofChange Rows.orderFirstSpec) :=
 OpenClaim.holds_of_wide 5 Tryd.f5 rfl rfl rfl rfl rfl rfl rfl ⟨rfl, rfl, rfl, rfl, rfl⟩ rfl rfl rfl rfl rfl (by kernel_rfl) Tryd.func5 (by kernel_rfl)
  (of_decide_eq_true (by kernel_rfl)) (by unfold Func.isWrapper; first | (rw [if_pos (by decide +kernel)]; kernel_rfl) | (rw [if_neg (by decide +kernel)]; exact ⟨rfl, rfl⟩))
  (fun os started H enc _ => Ms os started H enc)
theorem proved : Rows.OrderFirstCardSaid :=
 Claim7.holds_tied_plain_at .later [] [.data] true (true, "4a3022157eadb13fc182e540e8306916fb276db756ab08209bd1a01965935642") false
  Wv (fun _ h => by cases h) (by kernel_rfl) (fun _ h => by cases h) orderFirst_row_tie rfl ⟨rfl, rfl⟩ (by kernel_rfl) rfl
  (fun f fn hf hfn => by
   obtain rfl : f = 5 := oi_ ((show Tryd.prog.funcNamed "cipherplan/cipherplanlaw29.OrderFirst" = some 5 by kernel_rfl).symm.trans hf) |>.symm
   obtain rfl : fn = Tryd.f5 := (oi_ (Tryd.func5.symm.trans hfn)).symm
   exact ⟨by kernel_rfl, fun j t ht => by
    rw [Tryd.params5] at ht
    have hm : t ∈ [22, 5, 5] := by simpa using Array.mem_of_getElem? ht
    have hall : ([22, 5, 5].all fun u => !Tryd.prog.wantsStandIn u) = true := by kernel_rfl
    exact (show Tryd.prog.wantsStandIn t = false by simpa using List.all_eq_true.1 hall t hm)⟩)
  (by kernel_rfl)
#print axioms proved
end Go.Proofs.YtopkgllcjbpdeaaDoor.orderFirst
