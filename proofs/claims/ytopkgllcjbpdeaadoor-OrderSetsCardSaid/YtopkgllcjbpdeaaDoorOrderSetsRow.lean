import Derived.Test.YtopkgllcjbpdeaaDoorA7
import Derived.Test.YtopkgllcjbpdeaaDoorOC
import Derived.Test.YtopkgllcjbpdeaaDoorOP
import Derived.Test.YtopkgllcjbpdeaaDoorOW
import Derived.Test.YtopkgllcjbpdeaaDoorGL
import Derived.Test.YtopkgllcjbpdeaaDoorRows
import Derived.Test.YtopkgllcjbpdeaaDoorCards
import Derived.Test.YtopkgllcjbpdeaaDoorTie
import Derived.WalkKit
import Derived.Lib.SmallJoins
import Derived.ProofKit
import Derived.OpenShut
import Derived.ShutString
import Derived.ChangeOld
import Derived.Below
import Derived.SevenTiedAt
import Derived.LaidMore
import Derived.Stop.Joined
set_option linter.unusedSimpArgs false
set_option linter.unusedVariables false
namespace Go.Proofs.YtopkgllcjbpdeaaDoor.orderSets
open Go.ChangeShapes Go.WideShapes Go.ChangeAt Go.RowKit
open Go.ChangeMaps (open_string shut_string)
theorem dQ : Z5 Tryd.prog 3 eI := fun _ => Lj.i64 Tryd.underlying3
theorem U2 : Z5 Tryd.prog 22 (eL 1 eI) := fun k => by
 cases k with
 | zero => exact Lj.zero
 | succ k => exact Lj.slice Tryd.underlying22 (by kernel_rfl) (by omega) (fun x => G0 x) (dQ k)
theorem F9 : ownKnob Tryd.prog.godebug = none := by kernel_rfl
theorem Gc : laidOutB Tryd.prog = true := by kernel_rfl
theorem Wi (v0 : Value) (x0 : (List Int)) (w : World) (hl : Td (lt w.heap.size) w) (h0 : ∀ ρ, Bw ρ (lt w.heap.size) w (.sl 1 (An eI x0)) v0) :
  Calls Tryd.prog 6 #[v0] w fun e w' => e = .returned (.bool true) /\ Below w.heap.size w w' := by
 have hr : Bj (fun _ => .nilFunc) (lt w.heap.size) w [.sl 1 (An eI x0)] [v0] := Fh (h0 (fun _ => .nilFunc)) (Mc)
 exact Fn.plain (vs := [_]) (P1 x0 true (Vk x0)) (fun r b h => h.1) (fun _ => .nilFunc) (lt w.heap.size) (fun _ h => h) hl hr
set_option maxRecDepth 100000 in
theorem Ms (os : Os) (started : os.Started) (H : Type) (enc : TypeId × Value -> H) :
  ReturnsInHanded {} Tryd.checked os 6 .any (fun w args => (Rows.orderSetsSpec.pre enc Tryd.prog Tryd.f6 [] false w args /\ laidMetH Tryd.prog Jq w) /\ sizedMet enc Tryd.prog Tryd.f6 (OpenSpec.ofChange Rows.orderSetsSpec) false w args) (Rows.orderSetsSpec.post enc Tryd.prog Tryd.f6 false true false false) := by
 refine returnsInHanded_of_change_and (C := Tryd.checked) (X := fun w _ => laidMetH Tryd.prog Jq w) (fun _ _ _ hh h => h.of_heap hh) F9 started (by kernel_rfl) Tryd.func6
  (ChangeSpec.witness_shaped (enc := enc) (C := Tryd.checked) (os := os) (X := fun w _ => laidMetH Tryd.prog Jq w) false (World.doorLaid Tryd.prog 400 os) #[.slice none 0 0] 8 rfl (World.shaped_of_RefB (by kernel_rfl) (by kernel_rfl)) (by kernel_rfl) (by kernel_rfl) (by kernel_rfl) (Nq os _)) ?_
 intro W base args ds gs before hval0 hW _ _ hL _
 have hval : ∀ (j : Nat) t v, Tryd.f6.params[j]? = some t -> args[j]? = some v -> Value.okWide Tryd.prog W .any base t v := hval0
 have hW' := hW
 obtain ⟨p, q, hA0, hV, rfl, hfz, hnd⟩ := hW
 have hA : DataW.TrodAll enc Tryd.prog W 0 (fun _ => true) true Tryd.f6.params.toList args.toList ds p := hA0
 rw [Tryd.params6] at hA hval
 obtain ⟨v0, vs0, d0, ds0, p0, q0, hargs, rfl, rfl, h0, r0⟩ := trodAll_cons hA
 obtain ⟨rfl, rfl, rfl⟩ := trodAll_nil r0
 obtain rfl : args = #[v0] := by cases args; simp_all
 obtain ⟨rfl, rfl⟩ := trodVars_none hV
 have k0 := h0
 have lt0 : ∀ x ∈ p0, x.block < W.heap.size := by obtain ⟨m, hm⟩ := k0; exact DataW.trod_lt m _ _ _ hm
 obtain ⟨a0, len0, cap0, rfl⟩ := okWide_slice Tryd.underlying22 (hval 0 22 v0 rfl rfl)
 obtain ⟨x0, w0⟩ := H6 (c := fun a => .sl 1 (An eI a)) U2 (fun _ => rfl) rfl h0
 clear hA0 hval0
 refine (Wi _ x0 W (P4 hL) w0).mono fun e W' ⟨he, bel⟩ => ?_
 subst he
 exact ⟨_, rfl, _, _, _, [], _, [], hW', trodAll_mk1 (shut_bool Tryd.underlying4 _), (trodAll_cons_mk (Below.trod Gc (by kernel_rfl) (of_decide_eq_true (by kernel_rfl)) k0 bel lt0) trodAll_mk0), rfl, bel.frame _, fun h => by cases h⟩
theorem Wv : Rows.orderSetsRow.holds Tryd.pinned (OpenSpec.ofChange Rows.orderSetsSpec) :=
 OpenClaim.holds_of_wide 6 Tryd.f6 rfl rfl rfl rfl rfl rfl rfl ⟨rfl, rfl, rfl, rfl, rfl⟩ rfl rfl rfl rfl rfl (by kernel_rfl) Tryd.func6 (by kernel_rfl)
  (of_decide_eq_true (by kernel_rfl)) (by unfold Func.isWrapper; first | (rw [if_pos (by decide +kernel)]; kernel_rfl) | (rw [if_neg (by decide +kernel)]; exact ⟨rfl, rfl⟩))
  (fun os started H enc _ => Ms os started H enc)
theorem proved : Rows.OrderSetsCardSaid :=
 Claim7.holds_tied_plain_at .later [] [.data] true (true, "4a3022157eadb13fc182e540e8306916fb276db756ab08209bd1a01965935642") false
  Wv (fun _ h => by cases h) (by kernel_rfl) (fun _ h => by cases h) orderSets_row_tie rfl ⟨rfl, rfl⟩ (by kernel_rfl) rfl
  (fun f fn hf hfn => by
   obtain rfl : f = 6 := oi_ ((show Tryd.prog.funcNamed "cipherplan/cipherplanlaw29.OrderSets" = some 6 by kernel_rfl).symm.trans hf) |>.symm
   obtain rfl : fn = Tryd.f6 := (oi_ (Tryd.func6.symm.trans hfn)).symm
   exact ⟨by kernel_rfl, fun j t ht => by
    rw [Tryd.params6] at ht
    have hm : t ∈ [22] := by simpa using Array.mem_of_getElem? ht
    have hall : ([22].all fun u => !Tryd.prog.wantsStandIn u) = true := by kernel_rfl
    exact (show Tryd.prog.wantsStandIn t = false by simpa using List.all_eq_true.1 hall t hm)⟩)
  (by kernel_rfl)
#print axioms proved
end Go.Proofs.YtopkgllcjbpdeaaDoor.orderSets
