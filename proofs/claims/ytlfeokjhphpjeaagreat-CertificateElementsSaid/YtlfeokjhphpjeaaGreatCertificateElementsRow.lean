import Derived.Test.YtlfeokjhphpjeaaGreatA9
import Derived.Test.YtlfeokjhphpjeaaGreatQ5
import Derived.Test.YtlfeokjhphpjeaaGreatOP
import Derived.Test.YtlfeokjhphpjeaaGreatRows
import Derived.WalkKit
import Derived.Lib.SmallJoins
import Derived.ProofKit
import Derived.OpenShut
import Derived.ShutString
import Derived.ChangeOld
import Derived.Below
set_option linter.unusedSimpArgs false
set_option linter.unusedVariables false
namespace Go.Proofs.YtlfeokjhphpjeaaGreat.certificateElements
open Go.ChangeShapes Go.WideShapes Go.ChangeAt Go.RowKit
open Go.ChangeMaps (open_string shut_string)
theorem op3:yJ Tryz.prog 3 eI:=fun _=>Sp.i64 Tryz.underlying3
theorem aAl:yJ Tryz.prog 22 (eL 1 eI):=fun k=>by
 cases k with
 | zero=>exact Sp.zero
 | succ k=>exact Sp.slice Tryz.underlying22 (by kernel_rfl) (by omega) (fun x=>M2 x) (op3 k)
theorem op5:yJ Tryz.prog 5 e8:=fun _=>Sp.u8 Tryz.underlying5
theorem aAb:yJ Tryz.prog 23 (eL 1 e8):=fun k=>by
 cases k with
 | zero=>exact Sp.zero
 | succ k=>exact Sp.slice Tryz.underlying23 (by kernel_rfl) (by omega) (fun x=>B7 x) (op5 k)
theorem own:ownKnob Tryz.prog.godebug=none:=by kernel_rfl
theorem gW:laidOutB Tryz.prog=true:=by kernel_rfl
theorem zZ (v0 v1:Value) (x0:(List Int)) (x1:(List UInt8)) (w:World) (h0:∀ ρ,B5 ρ (lt w.heap.size) w (.sl 1 (Al eI x0)) v0) (h1:∀ ρ,B5 ρ (lt w.heap.size) w (.sl 1 (Al e8 x1)) v1) :
  Calls Tryz.prog 3 #[v0,v1] w fun e w'=>e=.returned (.bool true)/\Below w.heap.size w w':=by
 have hr:Bj (fun _=>.nilFunc) (lt w.heap.size) w [.sl 1 (Al eI x0),.sl 1 (Al e8 x1)] [v0,v1]:=Xc (h0 (fun _=>.nilFunc)) (Xc (h1 (fun _=>.nilFunc)) (iP))
 exact Fn.plain (vs:=[_,_]) (Lc x0 x1 true (Nk x0 x1)) (fun r b h=>h.1) (fun _=>.nilFunc) (lt w.heap.size) (fun _ h=>h) hr
set_option maxRecDepth 100000 in
theorem tO (os:Os) (started:os.Started) (H:Type) (enc:TypeId×Value->H) :
  ReturnsInHanded {} Tryz.checked os 3 .any (Rows.certificateElementsSpec.pre6 enc Tryz.prog Tryz.f3 Rows.certificateElementsRow.domain false) (Rows.certificateElementsSpec.post enc Tryz.prog Tryz.f3 false true false false):=by
 refine returnsInHanded_of_change (C:=Tryz.checked) own started (by kernel_rfl) Tryz.func3
  (ChangeSpec.witness6 (enc:=enc) (C:=Tryz.checked) false ⟨#[],#[.slice none 0 0,.slice none 0 0],[]⟩ 8 (by kernel_rfl) (by kernel_rfl) (by kernel_rfl) (by kernel_rfl)) ?_
 intro W base args ds gs before hval0 hW hcnd _
 have hval:∀ (j:Nat) t v,Tryz.f3.params[j]?=some t->args[j]?=some v->Value.okWide Tryz.prog W .any base t v:=hval0
 have hW':=hW
 obtain⟨p,q,hA0,hV,rfl,hfz,hnd⟩:=hW
 have hA:DataW.TrodAll enc Tryz.prog W 0 (fun _=>true) true Tryz.f3.params.toList args.toList ds p:=hA0
 rw [Tryz.params3] at hA hval
 obtain⟨v0,vs0,d0,ds0,p0,q0,hargs,rfl,rfl,h0,r0⟩:=trodAll_cons hA
 obtain⟨v1,vs1,d1,ds1,p1,q1,rfl,rfl,rfl,h1,r1⟩:=trodAll_cons r0
 obtain⟨rfl,rfl,rfl⟩:=trodAll_nil r1
 obtain rfl:args=#[v0,v1]:=by cases args; simp_all
 obtain⟨rfl,rfl⟩:=trodVars_none hV
 have k0:=h0
 have k1:=h1
 have lt0:∀ x∈p0,x.block < W.heap.size:=by obtain⟨m,hm⟩:=k0; exact DataW.trod_lt m _ _ _ hm
 have lt1:∀ x∈p1,x.block < W.heap.size:=by obtain⟨m,hm⟩:=k1; exact DataW.trod_lt m _ _ _ hm
 obtain⟨a0,len0,cap0,rfl⟩:=okWide_slice Tryz.underlying22 (hval 0 22 v0 rfl rfl)
 obtain⟨x0,w0⟩:=hG (c:=fun a=>.sl 1 (Al eI a)) aAl (fun _=>rfl) rfl h0
 obtain⟨a1,len1,cap1,rfl⟩:=okWide_slice Tryz.underlying23 (hval 1 23 v1 rfl rfl)
 obtain⟨x1,w1⟩:=hG (c:=fun a=>.sl 1 (Al e8 a)) aAb (fun _=>rfl) rfl h1
 clear hA0 hval0
 refine (zZ _ _ x0 x1 W w0 w1).mono fun e W' ⟨he,bel⟩=>?_
 subst he
 exact⟨_,rfl,_,_,_,[],_,[],hW',trodAll_mk1 (shut_bool Tryz.underlying4 _),(trodAll_cons_mk (Below.trod gW (by kernel_rfl) (aBw (by kernel_rfl)) k0 bel lt0) (trodAll_cons_mk (Below.trod gW (by kernel_rfl) (aBw (by kernel_rfl)) k1 bel lt1) trodAll_mk0)),rfl,bel.frame _,fun h=>by cases h⟩
theorem zN:Rows.certificateElementsRow.holds Tryz.pinned (OpenSpec.ofChange Rows.certificateElementsSpec):=
 OpenClaim.holds_of_wide 3 Tryz.f3 rfl rfl rfl rfl rfl rfl rfl ⟨rfl,rfl,rfl,rfl,rfl⟩ rfl rfl rfl rfl rfl (by kernel_rfl) Tryz.func3 (by kernel_rfl)
  (aBw (by kernel_rfl)) (by unfold Func.isWrapper; first | (rw [if_pos (by decide +kernel)]; kernel_rfl) | (rw [if_neg (by decide +kernel)]; exact⟨rfl,rfl⟩))
  (fun os started H enc _=>tO os started H enc)
theorem proved:Rows.CertificateElementsSaid:=zN
#print axioms proved
end Go.Proofs.YtlfeokjhphpjeaaGreat.certificateElements
