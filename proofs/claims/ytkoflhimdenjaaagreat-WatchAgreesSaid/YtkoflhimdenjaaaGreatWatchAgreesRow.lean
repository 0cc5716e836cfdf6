import Derived.Test.YtkoflhimdenjaaaGreatA13
import Derived.Test.YtkoflhimdenjaaaGreatV5
import Derived.Test.YtkoflhimdenjaaaGreatOP
import Derived.Test.YtkoflhimdenjaaaGreatOW
import Derived.Test.YtkoflhimdenjaaaGreatRows
import Derived.WalkKit
import Derived.Lib.SmallJoins
import Derived.ProofKit
import Derived.OpenShut
import Derived.ShutString
import Derived.ChangeOld
import Derived.Below
set_option linter.unusedSimpArgs false
set_option linter.unusedVariables false
namespace Go.Proofs.YtkoflhimdenjaaaGreat.watchAgrees
open Go.ChangeShapes Go.WideShapes Go.ChangeAt Go.RowKit
open Go.ChangeMaps (open_string shut_string)
theorem op3:Opn Tryz.prog 3 eI:=fun _=>Yo.i64 Tryz.underlying3
theorem aIk:Opn Tryz.prog 22 (eL 1 eI):=fun k=>by
 cases k with
 | zero=>exact Yo.zero
 | succ k=>exact Yo.slice Tryz.underlying22 (by kernel_rfl) (by omega) (fun x=>Ka x) (op3 k)
theorem own:ownKnob Tryz.prog.godebug=none:=by kernel_rfl
theorem xY:laidOutB Tryz.prog=true:=by kernel_rfl
theorem aIa (v0:Value) (x0:(List Int)) (w:World) (h0:∀ ρ,C4 ρ (lt w.heap.size) w (.sl 1 (As eI x0)) v0) :
  Calls Tryz.prog 3 #[v0] w fun e w'=>e=.returned (.bool true)/\Below w.heap.size w w':=by
 have hr:Cg (fun _=>.nilFunc) (lt w.heap.size) w [.sl 1 (As eI x0)] [v0]:=kV (h0 (fun _=>.nilFunc)) (pN)
 exact Fn.plain (vs:=[_]) (Ut x0 true (Yl x0)) (fun r b h=>h.1) (fun _=>.nilFunc) (lt w.heap.size) (fun _ h=>h) hr
set_option maxRecDepth 100000 in
theorem aAt (os:Os) (started:os.Started) (H:Type) (enc:TypeId×Value->H) :
  ReturnsInHanded {} Tryz.checked os 3 .any (Rows.watchAgreesSpec.pre6 enc Tryz.prog Tryz.f3 Rows.watchAgreesRow.domain false) (Rows.watchAgreesSpec.post enc Tryz.prog Tryz.f3 false true false false):=by
 refine returnsInHanded_of_change (C:=Tryz.checked) own started (by kernel_rfl) Tryz.func3
  (ChangeSpec.witness6 (enc:=enc) (C:=Tryz.checked) false ⟨#[],#[.slice none 0 0],[]⟩ 8 (by kernel_rfl) (by kernel_rfl) (by kernel_rfl) (by kernel_rfl)) ?_
 intro W base args ds gs before hval0 hW hcnd _
 have hval:∀ (j:Nat) t v,Tryz.f3.params[j]?=some t->args[j]?=some v->Value.okWide Tryz.prog W .any base t v:=hval0
 have hW':=hW
 obtain⟨p,q,hA0,hV,rfl,hfz,hnd⟩:=hW
 have hA:DataW.TrodAll enc Tryz.prog W 0 (fun _=>true) true Tryz.f3.params.toList args.toList ds p:=hA0
 rw [Tryz.params3] at hA hval
 obtain⟨v0,vs0,d0,ds0,p0,q0,hargs,rfl,rfl,h0,r0⟩:=trodAll_cons hA
 obtain⟨rfl,rfl,rfl⟩:=trodAll_nil r0
 obtain rfl:args=#[v0]:=by cases args; simp_all
 obtain⟨rfl,rfl⟩:=trodVars_none hV
 have k0:=h0
 have lt0:∀ x∈p0,x.block < W.heap.size:=by obtain⟨m,hm⟩:=k0; exact DataW.trod_lt m _ _ _ hm
 obtain⟨a0,len0,cap0,rfl⟩:=okWide_slice Tryz.underlying22 (hval 0 22 v0 rfl rfl)
 obtain⟨x0,w0⟩:=yI (c:=fun a=>.sl 1 (As eI a)) aIk (fun _=>rfl) rfl h0
 clear hA0 hval0
 refine (aIa _ x0 W w0).mono fun e W' ⟨he,bel⟩=>?_
 subst he
 exact⟨_,rfl,_,_,_,[],_,[],hW',trodAll_mk1 (shut_bool Tryz.underlying4 _),(trodAll_cons_mk (Below.trod xY (by kernel_rfl) (aBs (by kernel_rfl)) k0 bel lt0) trodAll_mk0),rfl,bel.frame _,fun h=>by cases h⟩
theorem aH0:Rows.watchAgreesRow.holds Tryz.pinned (OpenSpec.ofChange Rows.watchAgreesSpec):=
 OpenClaim.holds_of_wide 3 Tryz.f3 rfl rfl rfl rfl rfl rfl rfl ⟨rfl,rfl,rfl,rfl,rfl⟩ rfl rfl rfl rfl rfl (by kernel_rfl) Tryz.func3 (by kernel_rfl)
  (aBs (by kernel_rfl)) (by unfold Func.isWrapper; first | (rw [if_pos (by decide +kernel)]; kernel_rfl) | (rw [if_neg (by decide +kernel)]; exact⟨rfl,rfl⟩))
  (fun os started H enc _=>aAt os started H enc)
theorem proved:Rows.WatchAgreesSaid:=aH0
#print axioms proved
end Go.Proofs.YtkoflhimdenjaaaGreat.watchAgrees
