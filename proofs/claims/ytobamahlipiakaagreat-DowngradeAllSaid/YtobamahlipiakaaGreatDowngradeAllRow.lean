import Derived.Test.YtobamahlipiakaaGreatA16
import Derived.Test.YtobamahlipiakaaGreatYA
import Derived.Test.YtobamahlipiakaaGreatOP
import Derived.Test.YtobamahlipiakaaGreatOW
import Derived.Test.YtobamahlipiakaaGreatRows
import Derived.WalkKit
import Derived.Lib.SmallJoins
import Derived.ProofKit
import Derived.OpenShut
import Derived.ShutString
import Derived.ChangeOld
import Derived.Below
set_option linter.unusedSimpArgs false
set_option linter.unusedVariables false
namespace Go.Proofs.YtobamahlipiakaaGreat.downgradeAll
open Go.ChangeShapes Go.WideShapes Go.ChangeAt Go.RowKit
open Go.ChangeMaps (open_string shut_string)
theorem op3:qJ Tryz.prog 3 eI:=fun _=>Rl.i64 Tryz.underlying3
theorem pQ:qJ Tryz.prog 22 (eL 1 eI):=fun k=>by
 cases k with
 | zero=>exact Rl.zero
 | succ k=>exact Rl.slice Tryz.underlying22 (by kernel_rfl) (by omega) (fun x=>Mu x) (op3 k)
theorem aTa:qJ Tryz.prog 59 (eK .u16):=fun _=>Rl.int Tryz.underlying59
theorem aTt:qJ Tryz.prog 58 (eL 1 (eK .u16)):=fun k=>by
 cases k with
 | zero=>exact Rl.zero
 | succ k=>exact Rl.slice Tryz.underlying58 (by kernel_rfl) (by omega) (fun x=>rfl) (aTa k)
theorem own:ownKnob Tryz.prog.godebug=none:=by kernel_rfl
theorem Lb:laidOutB Tryz.prog=true:=by kernel_rfl
theorem pF (v0 v1:Value) (x0:(List Int)) (x1:(List Int)) (w:World) (h0:∀ ρ,C3 ρ (lt w.heap.size) w (.sl 1 (Ai eI x0)) v0) (h1:∀ ρ,C3 ρ (lt w.heap.size) w (.sl 1 (Ai (eK .u16) x1)) v1) :
  Calls Tryz.prog 5 #[v0,v1] w fun e w'=>e=.returned (.bool true)/\Below w.heap.size w w':=by
 have hr:B5 (fun _=>.nilFunc) (lt w.heap.size) w [.sl 1 (Ai eI x0),.sl 1 (Ai (eK .u16) x1)] [v0,v1]:=I5 (h0 (fun _=>.nilFunc)) (I5 (h1 (fun _=>.nilFunc)) (Tf))
 exact Fn.plain (vs:=[_,_]) (@Pr x0 x1 true (Z7 x0 x1 (B5.okV_ _ _ hr))) (fun r b h=>h.1) (fun _=>.nilFunc) (lt w.heap.size) (fun _ h=>h) hr
set_option maxRecDepth 100000 in
theorem Ue (os:Os) (started:os.Started) (H:Type) (enc:TypeId×Value->H) :
  ReturnsInHanded {} Tryz.checked os 5 .any (Rows.downgradeAllSpec.pre6 enc Tryz.prog Tryz.f5 Rows.downgradeAllRow.domain false) (Rows.downgradeAllSpec.post enc Tryz.prog Tryz.f5 false true false false):=by
 refine returnsInHanded_of_change (C:=Tryz.checked) own started (by kernel_rfl) Tryz.func5
  (ChangeSpec.witness6 (enc:=enc) (C:=Tryz.checked) false ⟨#[],#[.slice none 0 0,.slice none 0 0],[]⟩ 8 (by kernel_rfl) (by kernel_rfl) (by kernel_rfl) (by kernel_rfl)) ?_
 intro W base args ds gs before hval0 hW hcnd _
 have hval:∀ (j:Nat) t v,Tryz.f5.params[j]?=some t->args[j]?=some v->Value.okWide Tryz.prog W .any base t v:=hval0
 have hW':=hW
 obtain⟨p,q,hA0,hV,rfl,hfz,hnd⟩:=hW
 have hA:DataW.TrodAll enc Tryz.prog W 0 (fun _=>true) true Tryz.f5.params.toList args.toList ds p:=hA0
 rw [Tryz.params5] at hA hval
 obtain⟨v0,vs0,d0,ds0,p0,q0,hargs,rfl,rfl,h0,r0⟩:=trodAll_cons hA
 obtain⟨v1,vs1,d1,ds1,p1,q1,rfl,rfl,rfl,h1,r1⟩:=trodAll_cons r0
 obtain⟨rfl,rfl,rfl⟩:=trodAll_nil r1
 obtain rfl:args=#[v0,v1]:=by cases args; simp_all
 obtain⟨rfl,rfl⟩:=trodVars_none hV
 have k0:=h0
 have k1:=h1
 have lt0:∀ x∈p0,x.block < W.heap.size:=by obtain⟨m,hm⟩:=k0; exact DataW.trod_lt m _ _ _ hm
 have lt1:∀ x∈p1,x.block < W.heap.size:=by obtain⟨m,hm⟩:=k1; exact DataW.trod_lt m _ _ _ hm
 obtain⟨a0,len0,cap0,rfl⟩:=okWide_slice Tryz.underlying22 (hval 0 22 v0 rfl rfl)
 obtain⟨x0,w0⟩:=Pg (c:=fun a=>.sl 1 (Ai eI a)) pQ (fun _=>rfl) rfl h0
 obtain⟨a1,len1,cap1,rfl⟩:=okWide_slice Tryz.underlying58 (hval 1 58 v1 rfl rfl)
 obtain⟨x1,w1⟩:=Pg (c:=fun a=>.sl 1 (Ai (eK .u16) a)) aTt (fun _=>rfl) rfl h1
 clear hA0 hval0
 refine (pF _ _ x0 x1 W w0 w1).mono fun e W' ⟨he,bel⟩=>?_
 subst he
 exact⟨_,rfl,_,_,_,[],_,[],hW',trodAll_mk1 (shut_bool Tryz.underlying4 _),(trodAll_cons_mk (Below.trod Lb (by kernel_rfl) (aEk (by kernel_rfl)) k0 bel lt0) (trodAll_cons_mk (Below.trod Lb (by kernel_rfl) (aEk (by kernel_rfl)) k1 bel lt1) trodAll_mk0)),rfl,bel.frame _,fun h=>by cases h⟩
theorem mY:Rows.downgradeAllRow.holds Tryz.pinned (OpenSpec.ofChange Rows.downgradeAllSpec):=
 OpenClaim.holds_of_wide 5 Tryz.f5 rfl rfl rfl rfl rfl rfl rfl ⟨rfl,rfl,rfl,rfl,rfl⟩ rfl rfl rfl rfl rfl (by kernel_rfl) Tryz.func5 (by kernel_rfl)
  (aEk (by kernel_rfl)) (by unfold Func.isWrapper; first | (rw [if_pos (by decide +kernel)]; kernel_rfl) | (rw [if_neg (by decide +kernel)]; exact⟨rfl,rfl⟩))
  (fun os started H enc _=>Ue os started H enc)
theorem proved:Rows.DowngradeAllSaid:=mY
#print axioms proved
end Go.Proofs.YtobamahlipiakaaGreat.downgradeAll
