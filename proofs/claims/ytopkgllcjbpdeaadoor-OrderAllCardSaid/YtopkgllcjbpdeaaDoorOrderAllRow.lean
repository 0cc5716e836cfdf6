import Derived.Test.YtopkgllcjbpdeaaDoorA6
import Derived.Test.YtopkgllcjbpdeaaDoorOE
import Derived.Test.YtopkgllcjbpdeaaDoorOP
import Derived.Test.YtopkgllcjbpdeaaDoorOW
import Derived.Test.YtopkgllcjbpdeaaDoorGL
import Derived.Test.YtopkgllcjbpdeaaDoorRows
import Derived.Test.YtopkgllcjbpdeaaDoorCards
import Derived.Test.YtopkgllcjbpdeaaDoorTie
import Derived.WalkKit
import Derived.Lib.SmallJoins
import Derived.ProofKit
import Derived.OpenShut
import Derived.ShutString
import Derived.ChangeOld
import Derived.Below
import Derived.SevenTiedAt
import Derived.LaidMore
import Derived.Stop.Joined
set_option linter.unusedSimpArgs false
set_option linter.unusedVariables false
namespace Go.Proofs.YtopkgllcjbpdeaaDoor.orderAll
open Go.ChangeShapes Go.WideShapes Go.ChangeAt Go.RowKit
open Go.ChangeMaps (open_string shut_string)
theorem dQ : Z5 Tryd.prog 3 eI := fun _ => Lj.i64 Tryd.underlying3
theorem U2 : Z5 Tryd.prog 22 (eL 1 eI) := fun k => by
 cases k with
 | zero => exact Lj.zero
 | succ k => exact Lj.slice Tryd.underlying22 (by kernel_rfl) (by omega) (fun x => G0 x) (dQ k)
theorem sC : Z5 Tryd.prog 33 Aa.enc := by
 intro k
 intro H enc w fuel cs x hk h
 obtain ⟨xs, n, hn, -, hl, hx, hF⟩ := DataW.trod_struct Tryd.underlying33 h
 have hlen : cs.length = 2 := hl.trans (by kernel_rfl)
 obtain ⟨a0, r0⟩ := Lj.field (q := 1) hx hF 0 rfl rfl rfl (by kernel_rfl) (dQ fuel) (by omega)
 obtain ⟨a1, r1⟩ := Lj.field (q := 1) hx hF 1 rfl rfl rfl (by kernel_rfl) (dQ fuel) (by omega)
 refine ⟨⟨a0, a1⟩, ?_⟩
 exact D6.cut (o := 0) (o' := 1) r0 (D6.cut (o := 1) (o' := 2) r1 (D6.end_ (o := 2) (by omega)) rfl) rfl
theorem rO : Z5 Tryd.prog 25 (eL 2 Aa.enc) := fun k => by
 cases k with
 | zero => exact Lj.zero
 | succ k => exact Lj.slice Tryd.underlying25 (by kernel_rfl) (by omega) (fun x => Aa.enc_len x) (sC k)
theorem F9 : ownKnob Tryd.prog.godebug = none := by kernel_rfl
theorem Gc : laidOutB Tryd.prog = true := by kernel_rfl
theorem Wi (v0 v1 v2 v3 : Value) (x0 : (List Int)) (x1 : (List Aa)) (x2 : (List Int)) (x3 : Int) (w : World) (hl : Td (lt w.heap.size) w) (h0 : ∀ ρ, Bw ρ (lt w.heap.size) w (.sl 1 (An eI x0)) v0) (h1 : ∀ ρ, Bw ρ (lt w.heap.size) w (.sl 2 (An Aa.enc x1)) v1) (h2 : ∀ ρ, Bw ρ (lt w.heap.size) w (.sl 1 (An eI x2)) v2) (h3 : ∀ ρ, Bw ρ (lt w.heap.size) w (.val (.int .i64 x3)) v3) :
  Calls Tryd.prog 7 #[v0, v1, v2, v3] w fun e w' => e = .returned (.bool true) /\ Below w.heap.size w w' := by
 have hr : Bj (fun _ => .nilFunc) (lt w.heap.size) w [.sl 1 (An eI x0), .sl 2 (An Aa.enc x1), .sl 1 (An eI x2), .val (.int .i64 x3)] [v0, v1, v2, v3] := Fh (h0 (fun _ => .nilFunc)) (Fh (h1 (fun _ => .nilFunc)) (Fh (h2 (fun _ => .nilFunc)) (Fh (h3 (fun _ => .nilFunc)) (Mc))))
 exact Fn.plain (vs := [_, _, _, _]) (Rj x0 x1 x2 x3 true (W0 x0 x1 x2 x3)) (fun r b h => h.1) (fun _ => .nilFunc) (lt w.heap.size) (fun _ h => h) hl hr
set_option maxRecDepth 100000 in
theorem Ms (os : Os) (started : os.Started) (H : Type) (enc : TypeId × Value -> H) :
  ReturnsInHanded {} Tryd.checked os 7 .any (fun w args => (Rows.orderAllSpec.pre enc Tryd.prog Tryd.f7 [] false w args /\ laidMetH Tryd.prog Jq w) /\ sizedMet enc Tryd.prog Tryd.f7 (OpenSpec.ofChange Rows.orderAllSpec) false w args) (Rows.orderAllSpec.post enc Tryd.prog Tryd.f7 false true false false) := by
 refine returnsInHanded_of_change_and (C := Tryd.checked) (X := fun w _ => laidMetH Tryd.prog Jq w) (fun _ _ _ hh h => h.of_heap hh) F9 started (by kernel_rfl) Tryd.func7
  (ChangeSpec.witness_shaped (enc := enc) (C := Tryd.checked) (os := os) (X := fun w _ => laidMetH Tryd.prog Jq w) false (World.doorLaid Tryd.prog 400 os) #[.slice none 0 0, .slice none 0 0, .slice none 0 0, .int .i64 0] 8 rfl (World.shaped_of_RefB (by kernel_rfl) (by kernel_rfl)) (by kernel_rfl) (by kernel_rfl) (by kernel_rfl) (Nq os _)) ?_
 intro W base args ds gs before hval0 hW _ _ hL _
 have hval : ∀ (j : Nat) t v, Tryd.f7.params[j]? = some t -> args[j]? = some v -> Value.okWide Tryd.prog W .any base t v := hval0
 have hW' := hW
 obtain ⟨p, q, hA0, hV, rfl, hfz, hnd⟩ := hW
 have hA : DataW.TrodAll enc Tryd.prog W 0 (fun _ => true) true Tryd.f7.params.toList args.toList ds p := hA0
 rw [Tryd.params7] at hA hval
 obtain ⟨v0, vs0, d0, ds0, p0, q0, hargs, rfl, rfl, h0, r0⟩ := trodAll_cons hA
 obtain ⟨v1, vs1, d1, ds1, p1, q1, rfl, rfl, rfl, h1, r1⟩ := trodAll_cons r0
 obtain ⟨v2, vs2, d2, ds2, p2, q2, rfl, rfl, rfl, h2, r2⟩ := trodAll_cons r1
 obtain ⟨v3, vs3, d3, ds3, p3, q3, rfl, rfl, rfl, h3, r3⟩ := trodAll_cons r2
 obtain ⟨rfl, rfl, rfl⟩ := trodAll_nil r3
 obtain rfl : args = #[v0, v1, v2, v3] := by cases args; simp_all
 obtain ⟨rfl, rfl⟩ := trodVars_none hV
 have k0 := h0
 have k1 := h1
 have k2 := h2
 have k3 := h3
 have lt0 : ∀ x ∈ p0, x.block < W.heap.size := by obtain ⟨m, hm⟩ := k0; exact DataW.trod_lt m _ _ _ hm
 have lt1 : ∀ x ∈ p1, x.block < W.heap.size := by obtain ⟨m, hm⟩ := k1; exact DataW.trod_lt m _ _ _ hm
 have lt2 : ∀ x ∈ p2, x.block < W.heap.size := by obtain ⟨m, hm⟩ := k2; exact DataW.trod_lt m _ _ _ hm
 have lt3 : ∀ x ∈ p3, x.block < W.heap.size := by obtain ⟨m, hm⟩ := k3; exact DataW.trod_lt m _ _ _ hm
 obtain ⟨a0, len0, cap0, rfl⟩ := okWide_slice Tryd.underlying22 (hval 0 22 v0 rfl rfl)
 obtain ⟨x0, w0⟩ := H6 (c := fun a => .sl 1 (An eI a)) U2 (fun _ => rfl) rfl h0
 obtain ⟨a1, len1, cap1, rfl⟩ := okWide_slice Tryd.underlying25 (hval 1 25 v1 rfl rfl)
 obtain ⟨x1, w1⟩ := H6 (c := fun a => .sl 2 (An Aa.enc a)) rO (fun _ => rfl) rfl h1
 obtain ⟨a2, len2, cap2, rfl⟩ := okWide_slice Tryd.underlying22 (hval 2 22 v2 rfl rfl)
 obtain ⟨x2, w2⟩ := H6 (c := fun a => .sl 1 (An eI a)) U2 (fun _ => rfl) rfl h2
 obtain ⟨a3, rfl⟩ := okWide_int Tryd.underlying3 (hval 3 3 v3 rfl rfl)
 obtain ⟨x3, w3⟩ := H6 (c := fun (a : Int) => .int .i64 a) dQ (fun _ => rfl) rfl h3
 clear hA0 hval0
 refine (Wi _ _ _ _ x0 x1 x2 x3 W (P4 hL) w0 w1 w2 w3).mono fun e W' ⟨he, bel⟩ => ?_
 subst he
 exact ⟨_, rfl, _, _, _, [], _, [], hW', trodAll_mk1 (shut_bool Tryd.underlying4 _), (trodAll_cons_mk (Below.trod Gc (by kernel_rfl) (of_decide_eq_true (by kernel_rfl)) k0 bel lt0) (trodAll_cons_mk (Below.trod Gc (by kernel_rfl) (of_decide_eq_true (by kernel_rfl)) k1 bel lt1) (trodAll_cons_mk (Below.trod Gc (by kernel_rfl) (of_decide_eq_true (by kernel_rfl)) k2 bel lt2) (trodAll_cons_mk (Below.trod Gc (by kernel_rfl) (of_decide_eq_true (by kernel_rfl)) k3 bel lt3) trodAll_mk0)))), rfl, bel.frame _, fun h => by cases h⟩
theorem Wv : Rows.orderAllRow.holds Tryd.pinned (OpenSpec.ofChange Rows.orderAllSpec) :=
 OpenClaim.holds_of_wide 7 Tryd.f7 rfl rfl rfl rfl rfl rfl rfl ⟨rfl, rfl, rfl, rfl, rfl⟩ rfl rfl rfl rfl rfl (by kernel_rfl) Tryd.func7 (by kernel_rfl)
  (of_decide_eq_true (by kernel_rfl)) (by unfold Func.isWrapper; first | (rw [if_pos (by decide +kernel)]; kernel_rfl) | (rw [if_neg (by decide +kernel)]; exact ⟨rfl, rfl⟩))
  (fun os started H enc _ => Ms os started H enc)
theorem proved : Rows.OrderAllCardSaid :=
 Claim7.holds_tied_plain_at .later [] [.data] true (true, "4a3022157eadb13fc182e540e8306916fb276db756ab08209bd1a01965935642") false
  Wv (fun _ h => by cases h) (by kernel_rfl) (fun _ h => by cases h) orderAll_row_tie rfl ⟨rfl, rfl⟩ (by kernel_rfl) rfl
  (fun f fn hf hfn => by
   obtain rfl : f = 7 := oi_ ((show Tryd.prog.funcNamed "cipherplan/cipherplanlaw29.OrderAll" = some 7 by kernel_rfl).symm.trans hf) |>.symm
   obtain rfl : fn = Tryd.f7 := (oi_ (Tryd.func7.symm.trans hfn)).symm
   exact ⟨by kernel_rfl, fun j t ht => by
    rw [Tryd.params7] at ht
    have hm : t ∈ [22, 25, 22, 3] := by simpa using Array.mem_of_getElem? ht
    have hall : ([22, 25, 22, 3].all fun u => !Tryd.prog.wantsStandIn u) = true := by kernel_rfl
    exact (show Tryd.prog.wantsStandIn t = false by simpa using List.all_eq_true.1 hall t hm)⟩)
  (by kernel_rfl)
#print axioms proved
end Go.Proofs.YtopkgllcjbpdeaaDoor.orderAll
