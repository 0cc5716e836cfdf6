import Derived.Test.YtboglmbblmakjaaGreatDoorA16
import Derived.Test.YtboglmbblmakjaaGreatDoorR7
import Derived.Test.YtboglmbblmakjaaGreatDoorOP
import Derived.Test.YtboglmbblmakjaaGreatDoorGL
import Derived.Test.YtboglmbblmakjaaGreatDoorRows
import Derived.Test.YtboglmbblmakjaaGreatDoorCards
import Derived.Test.YtboglmbblmakjaaGreatDoorTie
import Derived.WalkKit
import Derived.Lib.SmallJoins
import Derived.ProofKit
import Derived.OpenShut
import Derived.ShutString
import Derived.ChangeOld
import Derived.Below
import Derived.SevenTiedAt
import Derived.LaidMore
import Derived.Stop.Joined
set_option linter.unusedSimpArgs false
set_option linter.unusedVariables false
namespace Go.Proofs.YtboglmbblmakjaaGreatDoor.topRenewed
open Go.ChangeShapes Go.WideShapes Go.ChangeAt Go.RowKit
open Go.ChangeMaps (open_string shut_string)
theorem op3:Opn Tryz.prog 3 eI:=fun _=>fE.i64 Tryz.underlying3
theorem aU7:Opn Tryz.prog 22 (eL 1 eI):=fun k=>by
 cases k with
 | zero=>exact fE.zero
 | succ k=>exact fE.slice Tryz.underlying22 (by kernel_rfl) (by omega) (fun x=>R7 x) (op3 k)
theorem own:ownKnob Tryz.prog.godebug=none:=by kernel_rfl
theorem aGa:laidOutB Tryz.prog=true:=by kernel_rfl
theorem aWt (v0:Value) (x0:(List Int)) (w:World) (hl:uK (lt w.heap.size) w) (h0:∀ ρ,Dk ρ (lt w.heap.size) w (.sl 1 (Ac eI x0)) v0) :
  Calls Tryz.prog 3 #[v0] w fun e w'=>e=.returned (.bool true)/\Below w.heap.size w w':=by
 have hr:Cj (fun _=>.nilFunc) (lt w.heap.size) w [.sl 1 (Ac eI x0)] [v0]:=uI (h0 (fun _=>.nilFunc)) (aAp)
 exact Fn.plain (vs:=[_]) (@Vd x0 true (jM x0)) (fun r b h=>h.1) (fun _=>.nilFunc) (lt w.heap.size) (fun _ h=>h) hl hr
set_option maxRecDepth 100000 in
theorem aOr (os:Os) (started:os.Started) (H:Type) (enc:TypeId×Value->H) :
  ReturnsInHanded {} Tryz.checked os 3 .any (fun w args=>(Rows.topRenewedSpec.pre enc Tryz.prog Tryz.f3 [] false w args/\laidMetH Tryz.prog qT w)/\sizedMet enc Tryz.prog Tryz.f3 (OpenSpec.ofChange Rows.topRenewedSpec) false w args) (Rows.topRenewedSpec.post enc Tryz.prog Tryz.f3 false true false false):=by
 refine returnsInHanded_of_change_and (C:=Tryz.checked) (X:=fun w _=>laidMetH Tryz.prog qT w) (fun _ _ _ hh h=>h.of_heap hh) own started (by kernel_rfl) Tryz.func3
  (ChangeSpec.witness_shaped (enc:=enc) (C:=Tryz.checked) (os:=os) (X:=fun w _=>laidMetH Tryz.prog qT w) false (World.doorLaid Tryz.prog 400 os) #[.slice none 0 0] 8 rfl (World.shaped_of_RefB (by kernel_rfl) (by kernel_rfl)) (by kernel_rfl) (by kernel_rfl) (by kernel_rfl) (aEh os _)) ?_
 intro W base args ds gs before hval0 hW _ _ hL _
 have hval:∀ (j:Nat) t v,Tryz.f3.params[j]?=some t->args[j]?=some v->Value.okWide Tryz.prog W .any base t v:=hval0
 have hW':=hW
 obtain⟨p,q,hA0,hV,rfl,hfz,hnd⟩:=hW
 have hA:DataW.TrodAll enc Tryz.prog W 0 (fun _=>true) true Tryz.f3.params.toList args.toList ds p:=hA0
 rw [Tryz.params3] at hA hval
 obtain⟨v0,vs0,d0,ds0,p0,q0,hargs,rfl,rfl,h0,r0⟩:=trodAll_cons hA
 obtain⟨rfl,rfl,rfl⟩:=trodAll_nil r0
 obtain rfl:args=#[v0]:=by cases args; simp_all
 obtain⟨rfl,rfl⟩:=trodVars_none hV
 have k0:=h0
 have lt0:∀ x∈p0,x.block < W.heap.size:=by obtain⟨m,hm⟩:=k0; exact DataW.trod_lt m _ _ _ hm
 obtain⟨a0,len0,cap0,rfl⟩:=okWide_slice Tryz.underlying22 (hval 0 22 v0 rfl rfl)
 obtain⟨x0,w0⟩:=aJd (c:=fun a=>.sl 1 (Ac eI a)) aU7 (fun _=>rfl) rfl h0
 clear hA0 hval0
 refine (aWt _ x0 W (aIf hL) w0).mono fun e W' ⟨he,bel⟩=>?_
 subst he
 exact⟨_,rfl,_,_,_,[],_,[],hW',trodAll_mk1 (shut_bool Tryz.underlying4 _),(trodAll_cons_mk (Below.trod aGa (by kernel_rfl) (aDm (by kernel_rfl)) k0 bel lt0) trodAll_mk0),rfl,bel.frame _,fun h=>by cases h⟩
theorem aVy:Rows.topRenewedRow.holds Tryz.pinned (OpenSpec.ofChange Rows.topRenewedSpec):=
 OpenClaim.holds_of_wide 3 Tryz.f3 rfl rfl rfl rfl rfl rfl rfl ⟨rfl,rfl,rfl,rfl,rfl⟩ rfl rfl rfl rfl rfl (by kernel_rfl) Tryz.func3 (by kernel_rfl)
  (aDm (by kernel_rfl)) (by unfold Func.isWrapper; first | (rw [if_pos (by decide +kernel)]; kernel_rfl) | (rw [if_neg (by decide +kernel)]; exact⟨rfl,rfl⟩))
  (fun os started H enc _=>aOr os started H enc)
theorem proved:Rows.TopRenewedCardSaid:=
 Claim7.holds_tied_plain_at .later [] [.data,.listed,.data] true (true, "8fffa11944745fa9012d563184a1893e8458bf1aea1392faf18189df263cdec4") false
  aVy (fun _ h=>by cases h) (by kernel_rfl) (fun _ h=>by cases h) topRenewed_row_tie rfl ⟨rfl,rfl⟩ (by kernel_rfl) rfl
  (fun f fn hf hfn=>by
   obtain rfl:f=3:=oi_ ((show Tryz.prog.funcNamed "cipherplan/cipherplantop.TopRenewed" = some 3 by kernel_rfl).symm.trans hf) |>.symm
   obtain rfl:fn=Tryz.f3:=(oi_ (Tryz.func3.symm.trans hfn)).symm
   exact⟨by kernel_rfl,fun j t ht=>by
    rw [Tryz.params3] at ht
    have hm:t∈[22]:=by simpa using Array.mem_of_getElem? ht
    have hall:([22].all fun u=>!Tryz.prog.wantsStandIn u)=true:=by kernel_rfl
    exact (show Tryz.prog.wantsStandIn t=false by simpa using aGo.1 hall t hm)⟩)
  (by kernel_rfl)
#print axioms proved
end Go.Proofs.YtboglmbblmakjaaGreatDoor.topRenewed
